/- A part. -/
import Derived.Test.YtlfkjfonpacelaaGreatDoorJF
set_option linter.all false
set_option maxRecDepth 20000
set_option maxHeartbeats 64000000
namespace Mv
open Go
theorem Wv {p q:Nat→BitVec 8} (h:∀ j,j < 64→p j=q j):Pr.mk' p=Pr.mk' q:=by
 unfold Pr.mk'
 congr 1
 exact List.map_congr_left fun j hj=>h j (List.mem_range.1 hj)
theorem WG {p q:Nat→BitVec 8} (h:∀ j,j < 32→p j=q j):Dg.mk' p=Dg.mk' q:=by
 unfold Dg.mk'
 congr 1
 exact List.map_congr_left fun j hj=>h j (List.mem_range.1 hj)
theorem V0 (f:Nat→BitVec 64) (a:BitVec 64) (n j:Nat) (h:a.toNat + n≤8192) (hj:j < 8 * n):Eh (rdL f a n 0) j=Bo (fun j=>f (a.toNat + j)) j:=by
 rw [Eh,Bo,Bo,Acy f a n 0 (j / 8) Aa Aa,Nat.add_zero]
theorem SO (pres:List (Dg × Pr)) (f g:Nat→BitVec 64) (pc xt:BitVec 64) (hpc:¬ 8192#64≤pc) (w:BitVec 64) (hw:f pc.toNat=w) (hop:Cj w=34) (h2:w >>> 32 &&& 255#64=0#64) (h3:wi (g (pF w 48)) 8#64=true) (h4:wi (g (pF w 44)) 4#64=true) :
 Dj pres ⟨f,g,pc,false,xt⟩=⟨fun j=>if (g (pF w 44)).toNat≤j∧j < (g (pF w 44)).toNat + 4 then J9 (fun i=>(Co (Pr.mk' (Bo fun j=>f ((g (pF w 48)).toNat + j))).at).at (8 * (j - (g (pF w 44)).toNat) + i)) 8 else f j,g,pc + 1#64,false,xt⟩:=by
 have ha:(g (pF w 48)).toNat + 8≤8192:=Eu h3;have hb:(g (pF w 44)).toNat + 4≤8192:=Eu h4;have q0:¬ isI w=false:=by rw [(GM w).2 ⟨by omega,h2⟩];simp
 rw [LB pres f g pc xt hpc,hw,Ox,if_neg q0,if_neg Aa,if_neg Aa,if_neg Aa,if_neg Aa,if_neg Aa,hop];dsimp only;rw [TL,if_neg (by simp [h3,h4])];rw [show (if (34:Nat)=35 then 4 else 8)=8 from rfl,SG];dsimp only;rw [if_pos rfl,MI,Tf];have hP:Pr.mk' (Eh (rdL f (g (pF w 48)) 8 0))=Pr.mk' (Bo fun j=>f ((g (pF w 48)).toNat + j)):=Wv (fun j hj=>V0 f _ 8 j ha Aa);rw [List.nil_append,hP];show (⟨_,_,_,_,_⟩:Mc)=_
 congr 1
 funext j;dsimp only;rw [S8 _ _ 4 0 f j Aa];simp only [Nat.add_zero,wsB]
theorem Xz (pres:List (Dg × Pr)) (f g:Nat→BitVec 64) (pc xt:BitVec 64) (hpc:¬ 8192#64≤pc) (w:BitVec 64) (hw:f pc.toNat=w) (hop:Cj w=35) (h2:w >>> 32 &&& 255#64=0#64) (h3:wi (g (pF w 48)) 4#64=true) (h4:wi (g (pF w 44)) 8#64=true) :
 pQ f g pc xt (g (pF w 44)) (En (Dg.mk' (Bo fun j=>f ((g (pF w 48)).toNat + j))) pres)=(Dj pres ⟨f,g,pc,false,xt⟩).v:=by
 have ha:(g (pF w 48)).toNat + 4≤8192:=Eu h3;have hb:(g (pF w 44)).toNat + 8≤8192:=Eu h4;have q0:¬ isI w=false:=by rw [(GM w).2 ⟨by omega,h2⟩];simp
 rw [LB pres f g pc xt hpc,hw,Ox,if_neg q0,if_neg Aa,if_neg Aa,if_neg Aa,if_neg Aa,if_neg Aa,hop];dsimp only;rw [TL,if_neg (by simp [h3,h4])];rw [show (if (35:Nat)=35 then 4 else 8)=4 from rfl,SG];dsimp only;have hP:Dg.mk' (Eh (rdL f (g (pF w 48)) 4 0))=Dg.mk' (Bo fun j=>f ((g (pF w 48)).toNat + j)):=WG (fun j hj=>V0 f _ 4 j ha Aa);rw [if_neg Aa,Aea,show (Ks pres).pi=WX pres from rfl,WX,List.nil_append,hP];cases En (Dg.mk' (Bo fun j=>f ((g (pF w 48)).toNat + j))) pres with
 | none=>rfl
 | some p =>
   dsimp only;rw [MI,Tf];show mach _ _ _ _ _=mach _ _ _ _ _
   congr 1
   funext j;refine Eq.trans ?_ (S8 _ _ 8 0 f j Aa).symm;simp only [Nat.add_zero,wsB]
theorem JN {α:Type} (k k':Dg) (hne:¬ k'=k) (x:α):∀ l:List (Dg × α),En k' (Dx k x l)=En k' l
 | []=>by simp [Dx,En,hne]
 | (h, y) :: r => by
   by_cases e:k=h
   ·subst e;simp [Dx,En,hne]
   ·have:=JN k k' hne x r;simp only [Dx,e,if_false,En,this]
theorem HM (w:WS) (p:Pr) (h:Cx w.pres):Cx (w.add p).pres:=by
 intro k q hk;rw [WS.add,PN] at hk;dsimp only at hk;by_cases e:k=Co p.at
 ·subst e;rw [RG] at hk;cases hk;rfl
 ·rw [JN _ _ e] at hk;exact h k q hk
end Mv
namespace Mv
def CN (w:Nat) (v:Nat→Nat):Nat→Nat
 | 0=>0
 | k + 1=>CN w v k + (v k) <<< (w * k)
theorem KH (w:Nat) (v:Nat→Nat) (hv:∀ k,v k < 2 ^ w):∀ n,CN w v n < 2 ^ (w * n)
 | 0=>by simp [CN]
 | n + 1 => by
   have h:=KH w v hv n;have h2:=hv n;simp only [CN,Nat.shiftLeft_eq];rw [Nat.mul_succ,Nat.pow_add,Nat.mul_comm (2 ^ (w * n))];have h3:(v n + 1) * 2 ^ (w * n)≤2 ^ w * 2 ^ (w * n):=Nat.mul_le_mul_right _ h2;rw [Nat.add_mul] at h3;omega
theorem EY (w:Nat) (v:Nat→Nat) (hv:∀ k,v k < 2 ^ w):∀ n i,(CN w v n >>> (w * i)) % 2 ^ w=if i < n then v i else 0
 | 0,i=>by simp [CN]
 | n + 1, i => by
   have ih:=EY w v hv n i;have hlt:=KH w v hv n;simp only [CN,Nat.shiftLeft_eq,Nat.shiftRight_eq_div_pow] at ih ⊢;by_cases h1:i < n
   ·rw [if_pos h1] at ih;rw [if_pos Aa];have e1:w * n=w * i + (w + w * (n - i - 1)):=by
     have:n=i + 1 + (n - i - 1):=Aa;rw [this,Nat.mul_add,Nat.mul_add];have e:i + 1 + (n - i - 1) - i - 1=n - i - 1:=Aa;rw [e];omega
    have e2:v n * 2 ^ (w * n)=2 ^ (w * i) * (2 ^ w * (v n * 2 ^ (w * (n - i - 1)))):=by
     rw [e1,Nat.pow_add,Nat.pow_add];simp only [Nat.mul_assoc,Nat.mul_comm,Nat.mul_left_comm]
    rw [e2,Nat.add_mul_div_left _ _ (Nat.pow_pos Aa),Nat.add_mul_mod_self_left];exact ih
   ·by_cases h2:i=n
    ·subst h2;rw [if_pos Aa,Nat.add_mul_div_right _ _ (Nat.pow_pos Aa),Nat.div_eq_of_lt hlt,Nat.zero_add,Nat.mod_eq_of_lt (hv i)]
    ·rw [if_neg Aa];have h3:CN w v n + v n * 2 ^ (w * n) < 2 ^ (w * i):=by
      have:=KH w v hv (n + 1);simp only [CN,Nat.shiftLeft_eq] at this;exact Nat.lt_of_lt_of_le this (Nat.pow_le_pow_right Aa (Nat.mul_le_mul_left _ Aa))
     rw [Nat.div_eq_of_lt h3];rfl
theorem C8 (w:Nat) {u v:Nat→Nat}:∀ n,(∀ k,k < n→u k=v k)→CN w u n=CN w v n
 | 0,_=>rfl
 | n + 1,h=>by rw [CN,CN,C8 w n (fun k hk=>h k Aa),h n Aa]
def MT (s i:Nat):Nat:=(s >>> (64 * i)) % 18446744073709551616
def Aol (x k:Nat):Nat:=(x <<< k) % 18446744073709551616 ||| x >>> (64 - k)
def Af2 (s x:Nat):Nat:=MT s x ^^^ MT s (x + 5) ^^^ MT s (x + 10) ^^^ MT s (x + 15) ^^^ MT s (x + 20)
def Any (s x:Nat):Nat:=Af2 s ((x + 4) % 5) ^^^ Aol (Af2 s ((x + 1) % 5)) 1
def thN (s j:Nat):Nat:=MT s j ^^^ Any s (j % 5)
def Age:List Nat:=[0,6,12,18,24,3,9,10,16,22,1,7,13,19,20,4,5,11,17,23,2,8,14,15,21]
def Ajy:List Nat:=[0,44,43,21,14,28,20,3,45,61,1,6,25,8,18,27,36,10,15,56,62,55,39,41,2]
def bN (s j:Nat):Nat:=Aol (thN s (Age.getD j 0)) (Ajy.getD j 0)
def Ajs (s j:Nat):Nat:=bN s j ^^^ ((18446744073709551615 ^^^ bN s (5 * (j / 5) + (j + 1) % 5)) &&& bN s (5 * (j / 5) + (j + 2) % 5))
def rcN (n:Nat):Nat:=(rounds.getD n 0).toNat
def Ad7 (s n:Nat):Nat:=CN 64 (fun k=>Ajs s k ^^^ (if k=0 then rcN n else 0)) 25
def Aoo (s:Nat):Nat→Nat
 | 0=>s
 | n + 1=>Ad7 (Aoo s n) n
def YN (a j:Nat):Nat:=(a >>> (8 * j)) % 256
def Am7 (a b j:Nat):Nat:=if j < 32 then YN a j else if j < 64 then YN b (j - 32) else if j=64 then 1 else if j=135 then 128 else 0
def xwN (p:Nat→Nat) (j:Nat):Nat→Nat
 | 0=>0
 | k + 1=>xwN p j k ^^^ ((p (8 * j + k) <<< (8 * k)) % 18446744073709551616)
def inN (a b:Nat):Nat:=CN 64 (fun i=>if i < 17 then xwN (Am7 a b) i 8 else 0) 25
def Als (s:Nat):Nat:=CN 8 (fun i=>(MT s (i / 8) >>> (8 * (i % 8))) % 256) 32
def J5 (a b:Nat):Nat:=Als (Aoo (inN a b) 24)
def K1 (d:Dg):Nat:=CN 8 (fun i=>(d.at i).toNat) 32
theorem Q5 (d:Dg) (i:Nat) (hi:i < 32):YN (K1 d) i=(d.at i).toNat:=by
 have h:=EY 8 (fun i=>(d.at i).toNat) (fun k=>(d.at k).isLt) 32 i;rw [if_pos hi] at h;exact h
def St (s:Nat) (l:List (BitVec 64)):Prop:=∀ i,i < 25→MT s i=(l.getD i 0).toNat
theorem QQ (x:BitVec 64) (k:Nat):Aol x.toNat k=(X9 x k).toNat:=Rs x k
theorem Ajt {s:Nat} {l:List (BitVec 64)} (h:St s l) (x:Nat) (hx:x < 5):Af2 s x=(par l x).toNat:=by
 simp only [Af2,par,BitVec.toNat_xor,h x Aa,h (x + 5) Aa,h (x + 10) Aa,h (x + 15) Aa,h (x + 20) Aa]
theorem Ao0 {s:Nat} {l:List (BitVec 64)} (h:St s l) (x:Nat):Any s x=(UH l x).toNat:=by
 simp only [Any,UH,BitVec.toNat_xor,Ajt h _ (Nat.mod_lt _ (by omega:0 < 5)),QQ]
theorem At1 {s:Nat} {l:List (BitVec 64)} (h:St s l) (j:Nat) (hj:j < 25):thN s j=((th l).getD j 0).toNat:=by
 rw [ZR _ _ hj,Qs,if_pos Aa,BitVec.toNat_xor,thN,h j hj,Ao0 h]
end Mv
namespace Mv
def Ln (p:Nat):Nat:=(lanes.getD p 0).toNat
def Tn (p:Nat):Nat:=(turns.getD p 0).toNat
def pos:Nat→Nat
 | 0=>1
 | p + 1=>Ln p
theorem Ark:∀ p,p < 24→Ln p < 25:=Al
theorem Aiu:∀ p,p < 24→∀ q,q < 24→p ≠ q→Ln p ≠ Ln q:=Al
theorem Aov:∀ j,j < 25→j ≠ 0→∃ p,p < 24∧Ln p=j∧pos p=Age.getD j 0∧Tn p=Ajy.getD j 0:=Al
theorem Aon:∀ p,p < 24→Ln p ≠ 0:=Al
def OW (a:List (BitVec 64)):Nat→Nat→BitVec 64
 | 0,j=>a.getD j 0
 | p + 1,j=>if j=Ln p then X9 (a.getD (pos p) 0) (Tn p) else OW a p j
theorem HI (a:List (BitVec 64)) (j:Nat):∀ p,(∀ q,q < p→Ln q ≠ j)→OW a p j=a.getD j 0
 | 0,_=>rfl
 | p + 1,h=>by rw [OW,if_neg (fun e=>h p Aa e.symm),HI a j p (fun q hq=>h q Aa)]
theorem RF (a:List (BitVec 64)) (p:Nat):∀ n,p < n→n≤24→OW a n (Ln p)=X9 (a.getD (pos p) 0) (Tn p)
 | 0,h,_=>by omega
 | n + 1, h, h2 => by
   by_cases e:p=n
   ·subst e;rw [OW,if_pos rfl]
   ·rw [OW,if_neg (Aiu p Aa n Aa e),RF a p n Aa Aa]
theorem Vq (a:List (BitVec 64)) (ha:a.length=25):∀ p,p≤24→(Ng a p).1=a.getD (pos p) 0∧∀ j,(Ng a p).2.getD j 0=OW a p j
 | 0,_=>⟨rfl,fun _=>rfl⟩
 | p + 1, h => by
   obtain ⟨h1,h2⟩:=Vq a ha p Aa;refine ⟨?_,fun j=>?_⟩
   ·show (Ng a p).2.getD (Ln p) 0=a.getD (Ln p) 0;rw [h2,HI a _ p (fun q hq=>Aiu q Aa p Aa Aa)]
   ·show ((Ng a p).2.set (Ln p) (X9 (Ng a p).1 (Tn p))).getD j 0=OW a (p + 1) j;rw [Zd _ _ _ _ (by rw [OP a ha];exact Ark p Aa),h1,h2,OW]
theorem Aqs (x:BitVec 64):X9 x 0=x:=by
 have h:x >>> 64=0:=by
  apply BitVec.eq_of_toNat_eq;rw [BitVec.toNat_ushiftRight,Nat.shiftRight_eq_div_pow,Nat.div_eq_of_lt x.isLt];rfl
 simp [X9,h]
theorem Amt (a:List (BitVec 64)) (ha:a.length=25) (j:Nat) (hj:j < 25):(Ng a 24).2.getD j 0=X9 (a.getD (Age.getD j 0) 0) (Ajy.getD j 0):=by
 rw [(Vq a ha 24 (Nat.le_refl _)).2];by_cases h0:j=0
 ·subst h0;rw [HI a 0 24 (fun q hq=>Aon q hq)];exact (Aqs _).symm
 ·obtain ⟨p,h1,h2,h3,h4⟩:=Aov j hj h0;rw [← h2,RF a p 24 h1 (Nat.le_refl _),h2,h3,h4]
theorem Ad4:∀ j,j < 25→Age.getD j 0 < 25:=Al
theorem Am1 {s:Nat} {l:List (BitVec 64)} (h:St s l) (j:Nat) (hj:j < 25):bN s j=((Ng (th l) 24).2.getD j 0).toNat:=by
 rw [Amt _ (Abd l) j hj,bN,At1 h _ (Ad4 j hj),QQ]
theorem Ado (x:BitVec 64):(~~~x).toNat=18446744073709551615 ^^^ x.toNat:=by
 have h2:BitVec.allOnes 64 ^^^ x = ~~~x:=BitVec.allOnes_xor;rw [← h2,BitVec.toNat_xor];rfl
theorem Ali {s:Nat} {l:List (BitVec 64)} (h:St s l) (j:Nat) (hj:j < 25):Ajs s j=(Hj (Ng (th l) 24).2 5 j).toNat:=by
 rw [Hj,if_pos Aa,BitVec.toNat_xor,BitVec.toNat_and,Ado,Ajs,Am1 h j hj,Am1 h _ Aa,Am1 h _ Aa]
theorem Avv (n:Nat) (hn:n < 24):rcN n=(rc.getD n 0).toNat:=by
 have:=Aiw n hn;rw [rcN,← this];rfl
theorem Aot {s:Nat} {l:List (BitVec 64)} (h:St s l) (n:Nat) (hn:n < 24):St (Ad7 s n) (rnd l n):=by
 intro i hi;have hw:∀ k,(fun k=>if k < 25 then ((rnd l n).getD k 0).toNat else 0) k < 2 ^ 64:=by
  intro k;simp only;split
  ·exact BitVec.isLt _
  ·exact Nat.pow_pos Aa
 have e:Ad7 s n=CN 64 (fun k=>if k < 25 then ((rnd l n).getD k 0).toNat else 0) 25:=by
  unfold Ad7;refine C8 64 25 (fun k hk=>?_);rw [if_pos hk,XC _ _ _ hk,Ali h k hk];by_cases h0:k=0
  ·subst h0;rw [if_pos rfl,if_pos rfl,BitVec.toNat_xor,Avv n hn]
  ·rw [if_neg h0,if_neg h0,Nat.xor_zero]
 have:=EY 64 _ hw 25 i;rw [if_pos hi] at this;simp only [if_pos hi] at this;rw [MT,e];exact this
theorem Acg {s:Nat} {l:List (BitVec 64)} (h:St s l):∀ n,n≤24→St (Aoo s n) (Qv l n)
 | 0,_=>h
 | n + 1,hn=>Aot (Acg h n Aa) n Aa
theorem Aie (p:Nat→BitVec 8) (q:Nat→Nat) (j:Nat):∀ k,k≤8→(∀ i,i < 8→q (8 * j + i)=(p (8 * j + i)).toNat)→xwN q j k=(pwx 0 p j k).toNat
 | 0,_,_=>rfl
 | k + 1, hk, h => by
   rw [xwN,pwx,BitVec.toNat_xor,Aie p q j k Aa h,h k Aa,BitVec.toNat_shiftLeft,BitVec.toNat_setWidth];have hb:=(p (8 * j + k)).isLt;rw [Nat.mod_eq_of_lt (by omega:(p (8 * j + k)).toNat < 2 ^ 64)]
theorem Ate (a b:Dg) (k:Nat) (hk:k < 136):Am7 (K1 a) (K1 b) k=(Zn a b k).toNat:=by
 unfold Am7 Zn;by_cases h1:k < 32
 ·rw [if_pos h1,if_pos h1,Q5 a k h1]
 ·rw [if_neg h1,if_neg h1];by_cases h2:k < 64
  ·rw [if_pos h2,if_pos h2,Q5 b _ Aa]
  ·rw [if_neg h2,if_neg h2];split
   ·rfl
   ·split <;> rfl
theorem At5 (a b:Dg):St (inN (K1 a) (K1 b)) (mix (List.replicate 25 0) (Zn a b)):=by
 intro i hi;have hrep:(List.replicate 25 (0:BitVec 64)).getD i 0=0:=by rw [List.getD,List.getElem?_replicate,if_pos hi];rfl
 have hw:∀ k,(fun k=>if k < 17 then (pwx 0 (Zn a b) k 8).toNat else 0) k < 2 ^ 64:=by
  intro k;simp only;split
  ·exact BitVec.isLt _
  ·exact Nat.pow_pos Aa
 have e:inN (K1 a) (K1 b)=CN 64 (fun k=>if k < 17 then (pwx 0 (Zn a b) k 8).toNat else 0) 25:=by
  unfold inN;refine C8 64 25 (fun k hk=>?_);by_cases h1:k < 17
  ·rw [if_pos h1,if_pos h1];exact Aie (Zn a b) _ k 8 (Nat.le_refl _) (fun i hi=>Ate a b _ Aa)
  ·rw [if_neg h1,if_neg h1]
 have:=EY 64 _ hw 25 i;rw [if_pos hi] at this;rw [MT,e];refine Eq.trans this ?_;rw [Yl _ _ _ hi,T4,hrep];by_cases h1:i < 17
 ·simp only [if_pos h1]
 ·simp only [if_neg h1];split <;> rfl
theorem Alv {s:Nat} {l:List (BitVec 64)} (h:St s l):Als s=K1 (Yr l):=by
 unfold Als K1;refine C8 8 32 (fun k hk=>?_);rw [Yr,Dg.at_mk' _ _ hk,BitVec.toNat_setWidth,BitVec.toNat_ushiftRight,h (k / 8) Aa]
theorem FN (a b:Dg):K1 (BP a b)=J5 (K1 a) (K1 b):=by
 rw [J5,BP,Nd,YL];exact (Alv (Acg (At5 a b) 24 (Nat.le_refl _))).symm
def Iy:Nat→Nat
 | 0=>0
 | h + 1=>J5 (Iy h) (Iy h)
theorem Akj:K1 Dg.zero=0:=by
 have h:K1 Dg.zero=CN 8 (fun _=>0) 32:=C8 8 32 (fun k _=>by simp only [Dg.at_zero];rfl);rw [h];decide
theorem Mp:∀ h,K1 (A4 h)=Iy h
 | 0=>Akj
 | h + 1=>by rw [A4,FN,Mp h,Iy]
end Mv
namespace Mv
open Go
def lf:Nat→Nat
 | 0=>1
 | n + 1=>if 255 < lf n * 2 then (lf n * 2) ^^^ 369 else lf n * 2
def kk (i:Nat):Nat→BitVec 64
 | 0=>0
 | j + 1=>if lf (7 * i + j) % 2=1 then kk i j ||| ((1:BitVec 64) <<< (2 ^ j - 1)) else kk i j
def p1 (p:Nat→BitVec 8) (j:Nat):BitVec 8:=if j < 64 then p j else if j=64 then 1 else 0
def rp (l:List (Dg × Pr)) (i:Nat):Pr:=(l.getD i (Dg.zero,Pr.zero)).2
def Akr (l:List In) (v:V):Prop:=v=Kl l ∨ (v = .nils∧l=[])
def ldM (l:List In):Mc:=⟨Afn (min l.length 8192) (fun j=>Jo (l.getD j default)),fun _=>0#64,0#64,false,0#64⟩
def Mo (m:Mc):Prop:=m.hl=false∧¬ 8192#64≤m.pc∧m.f m.pc.toNat >>> 32 &&& 255#64=0#64∧Cj (m.f m.pc.toNat)=34∧(wi (m.g (pF (m.f m.pc.toNat) 48)) 8#64 && wi (m.g (pF (m.f m.pc.toNat) 44)) 4#64)=true
def ZA (m:Mc):Pr:=Pr.mk' (Bo fun j=>m.f ((m.g (pF (m.f m.pc.toNat) 48)).toNat + j))
theorem QR {m:Mc} (h:Mo m):Rb m:=⟨h.1,h.2.1,h.2.2.1,.inl ⟨h.2.2.2.1,h.2.2.2.2⟩⟩
theorem Xx {M:Seat} (ok:OkT M) (s:SM) (hs:s.n < 1099511627776):∃ s',J6 M s s'∧s'.m=Dj s.w.pres s.m∧(Cx s.w.pres→Cx s'.w.pres)∧((¬ Mo s.m∧s'.w=s.w) ∨ (Mo s.m∧s'.w=s.w.add (ZA s.m))):=by
 obtain ⟨w,l,n,q,m⟩:=s;by_cases ha:Rb m
 ·obtain ⟨f,g,pc,hl,xt⟩:=m;obtain ⟨h1,hpc,h2,ho⟩:=ha;dsimp only at h1 hpc h2 ho hs;subst h1;rcases ho with ⟨hop,hw⟩ | ⟨hop,hw⟩
  ·simp only [Bool.and_eq_true] at hw;have ha:=Eu hw.1;have hb:=Eu hw.2;have hX:=SO w.pres f g pc xt hpc _ rfl hop h2 hw.1 hw.2;cases n with
   | zero=>exact ⟨⟨_,l,0,q,⟨_,g,_,false,xt⟩⟩,.intro (.NN rfl rfl (Hu ok.okA ok.ok w l f g pc xt hpc _ rfl hop h2 ha hb)) B9,hX.symm,HM _ _,.inr ⟨⟨rfl,hpc,h2,hop,by simp only [Bool.and_eq_true];exact hw⟩,rfl⟩⟩
   | succ n=>exact ⟨⟨_,l,n + 1,q,⟨_,g,_,false,xt⟩⟩,.intro (.SS (Nat.succ_pos _) (Nat.succ_pos _) (Gz (n + 1) q ok.okA ok.ok w l f g pc xt hpc _ rfl hop h2 ha hb)) B9,hX.symm,HM _ _,.inr ⟨⟨rfl,hpc,h2,hop,by simp only [Bool.and_eq_true];exact hw⟩,rfl⟩⟩
  ·simp only [Bool.and_eq_true] at hw;have ha:=Eu hw.1;have hb:=Eu hw.2;have hX:=Xz w.pres f g pc xt hpc _ rfl hop h2 hw.1 hw.2;obtain ⟨D,hD⟩:∃ D,Dg.mk' (Bo fun j=>f ((g (pF (f pc.toNat) 48)).toNat + j))=D:=⟨_,rfl⟩
   rw [hD] at hX;obtain ⟨sn,hs'⟩:∃ sn,was l D sn:=by
    cases hc:En D l with
    | none=>exact ⟨false,.inr ⟨rfl,.inl hc⟩⟩
    | some b => cases b with
      | false=>exact ⟨false,.inr ⟨rfl,.inr hc⟩⟩
      | true=>exact ⟨true,.inl ⟨rfl,hc⟩⟩
   cases n with
   | zero =>
     have h:=JT ok.okA ok.ok w l f g pc xt hpc _ rfl hop h2 ha hb D hD _ sn rfl hs';rw [hX] at h;cases sn with
     | true=>exact ⟨⟨w,l,0,q,_⟩,.intro (.NN rfl rfl h) B9,rfl,id,.inl ⟨fun hc=>by have:=hc.2.2.2.1;dsimp only at this;omega,rfl⟩⟩
     | false=>exact ⟨⟨w,_,1,fun _=>D,_⟩,.intro (.NS rfl Nat.one_pos h) B9,rfl,id,.inl ⟨fun hc=>by have:=hc.2.2.2.1;dsimp only at this;omega,rfl⟩⟩
   | succ n =>
     have h:=JH ok.okA ok.ok w (n + 1) hs q l f g pc xt hpc _ rfl hop h2 ha hb D hD _ sn rfl hs';rw [hX] at h;cases sn with
     | true=>exact ⟨⟨w,l,n + 1,q,_⟩,.intro (.SS (Nat.succ_pos _) (Nat.succ_pos _) h) B9,rfl,id,.inl ⟨fun hc=>by have:=hc.2.2.2.1;dsimp only at this;omega,rfl⟩⟩
     | false=>exact ⟨⟨w,_,n + 1 + 1,_,_⟩,.intro (.SN (Nat.succ_pos _) (Nat.succ_pos _) h) B9,rfl,id,.inl ⟨fun hc=>by have:=hc.2.2.2.1;dsimp only at this;omega,rfl⟩⟩
 ·exact ⟨⟨w,l,n,q,Dj w.pres m⟩,⟨.mach (Afk ok.ok ok.okP w.pres m ha) rfl,Nat.le_succ _⟩,rfl,id,.inl ⟨fun hc=>ha (QR hc),rfl⟩⟩
variable {M:Seat}
noncomputable def I8 (pres:List (Dg × Pr)) (m:Mc):List (Dg × Pr):=haveI:Decidable (Mo m):=Classical.propDecidable _;if Mo m then Dx (Co (ZA m).at) (ZA m) pres else pres
noncomputable def xs (m:Mc) (p:List (Dg × Pr)):Nat→Mc × List (Dg × Pr)
 | 0=>(m,p)
 | i + 1=>(Dj (xs m p i).2 (xs m p i).1,I8 (xs m p i).2 (xs m p i).1)
theorem Yt {m:Mc} (p:List (Dg × Pr)) (h:m.hl=true):Dj p m=m:=by unfold Dj;rw [if_pos h]
theorem Aad {m:Mc} (p:List (Dg × Pr)) (h:m.hl=true):I8 p m=p:=by
 unfold I8;rw [if_neg (fun h2=>by have:=h2.1;rw [h] at this;cases this)]
theorem Aus {m:Mc} {p:List (Dg × Pr)} (i:Nat) (h:(xs m p i).1.hl=true):xs m p (i + 1)=xs m p i:=by
 show (Dj _ _,I8 _ _)=_;rw [Yt _ h,Aad _ h]
theorem Qa {m:Mc} {p:List (Dg × Pr)} (i:Nat) (h:(xs m p i).1.hl=true):∀ j,xs m p (i + j)=xs m p i
 | 0=>rfl
 | j + 1 => by
   have ih:=Qa i h j;rw [show i + (j + 1)=(i + j) + 1 from rfl,Aus (i + j) (by rw [ih];exact h),ih]
theorem YV (m:Mc) (p:List (Dg × Pr)) (i:Nat):∀ j,xs m p (i + j)=xs (xs m p i).1 (xs m p i).2 j
 | 0=>rfl
 | j + 1 => by
   have ih:=YV m p i j;show (Dj (xs m p (i + j)).2 (xs m p (i + j)).1,I8 (xs m p (i + j)).2 (xs m p (i + j)).1)=_;rw [ih];rfl
theorem Nm (ok:OkT M) (s:SM):∃ s',s.n < 1099511627776→J6 M s s'∧(s'.m,s'.w.pres)=(Dj s.w.pres s.m,I8 s.w.pres s.m)∧(Cx s.w.pres→Cx s'.w.pres):=by
 by_cases hs:s.n < 1099511627776
 ·obtain ⟨s',h1,h2,h3,h4⟩:=Xx ok s hs;refine ⟨s',fun _=>⟨h1,?_,h3⟩⟩;rw [h2]
  congr 1
  unfold I8;rcases h4 with ⟨h5,h6⟩ | ⟨h5,h6⟩
  ·rw [if_neg h5,h6]
  ·rw [if_pos h5,h6,WS.add,PN]
 ·exact ⟨s,fun h=>absurd h hs⟩
noncomputable def Q4 (ok:OkT M) (s:SM):SM:=Classical.choose (Nm ok s)
theorem ZF (ok:OkT M) (s:SM) (h:s.n < 1099511627776):J6 M s (Q4 ok s)∧((Q4 ok s).m,(Q4 ok s).w.pres)=(Dj s.w.pres s.m,I8 s.w.pres s.m)∧(Cx s.w.pres→Cx (Q4 ok s).w.pres):=Classical.choose_spec (Nm ok s) h
noncomputable def QA (ok:OkT M) (s:SM):Nat→SM
 | 0=>s
 | i + 1=>Q4 ok (QA ok s i)
theorem K4 (ok:OkT M) (s:SM) (hs:s.n=0):∀ i,i < 549755813888→(QA ok s i).n≤i∧((QA ok s i).m,(QA ok s i).w.pres)=xs s.m s.w.pres i∧(Cx s.w.pres→Cx (QA ok s i).w.pres)
 | 0,_=>⟨by show s.n≤0;omega,rfl,fun h=>h⟩
 | i + 1, h => by
   obtain ⟨h1,h2,h3⟩:=K4 ok s hs i Aa;obtain ⟨k1,k2,k3⟩:=ZF ok (QA ok s i) Aa;refine ⟨by have:=k1.2;show (Q4 ok (QA ok s i)).n≤i + 1;omega,?_,fun hp=>k3 (h3 hp)⟩;show ((Q4 ok (QA ok s i)).m,(Q4 ok (QA ok s i)).w.pres)=(Dj _ _,I8 _ _)
   rw [k2,← h2]
theorem Ail (ok:OkT M) (s:SM) (hs:s.n=0) (i:Nat) (hi:i < 549755813888):J6 M (QA ok s i) (QA ok s (i + 1)) :=
 (ZF ok _ (by have:=(K4 ok s hs i hi).1;omega)).1
theorem Vo (P:Nat→Prop) (n:Nat):∃ k,k≤n∧(∀ j,j < k→¬ P j)∧(P k ∨ k=n):=by
 induction n with
 | zero=>exact ⟨0,Nat.le_refl _,fun j h=>absurd h (Nat.not_lt_zero _),.inr rfl⟩
 | succ n ih =>
   obtain ⟨k,h1,h2,h3⟩:=ih;by_cases hp:P k
   ·exact ⟨k,by omega,h2,.inl hp⟩
   ·obtain rfl:k=n:=h3.resolve_left hp
    exact ⟨k + 1,Nat.le_refl _,fun j hj=>by
     rcases Nat.lt_or_ge j k with h | h
     ·exact h2 j h
     ·obtain rfl:j=k:=Aa
      exact hp,.inr rfl⟩
theorem Wf (ok:OkT M) (s:SM) (hs:s.n=0) (hp:Cx s.w.pres) (n:Nat) (hn:n < 549755813888) :
 ∃ (k:Nat) (s':SM),k≤n∧(s'.m.hl=true ∨ k=n)∧(s'.m,s'.w.pres)=xs s.m s.w.pres k∧Cx s'.w.pres ∧
  Ae M 71 [.ptr 5 [],.ptr 0 [],.int .i64 n] (Nh s) 6 (Q3 (Ai (.int .i64 k) .nili) (QU s') (QZ s')):=by
 obtain ⟨k,h1,h2,h3⟩:=Vo (fun j=>(QA ok s j).m.hl=true) n;obtain ⟨_,q2,q3⟩:=K4 ok s hs k Aa;exact ⟨k,QA ok s k,h1,h3,q2,q3 hp,NM ok.ok.k71 (QA ok s) hs n k h1 hn (fun i hi=>Ail ok s hs i Aa) h2 h3⟩
def Ah9:LC:=(sr [A1 2 (.mv (.c .nilp))] (sr [mt 6 0,kl 7 75 [(.t 6)],kl 8 74 [(.t 7)],mt 5 8,ee 9 5 0,ee 10 5 1,mt 3 9,mt 4 10] (.seq (sr [mt 11 4,A1 12 (.eq true true (.iface [74]) (.t 11) (.c .nili))] (.cond (.t 12) (sr [A1 2 (.mv (.c .nilp))] .ret) .skip)) (sr [mt 13 3,mt 2 13] .ret))))
def Ym:LF:=⟨Ah9,1,0,14,[.tmp 2]⟩
def Asi:LC:=(sr [A1 6 (.mv (.c .nilp)),mn 7] (.seq (.block 0 (sr [mt 10 0,A1 11 (.eq false true .ptr (.t 10) (.c .nilp)),mt 12 11,mg 13 12 false 1,A2 14 12 false (.eq false true .ptr (.t 13) (.c .nilp)),
  CQ 15 12 14,mt 9 15] (.cond (.t 9) (sr [A1 16 (.mkif 74 (cI 1)),A1 6 (.mv (.c .nilp)),mt 7 16] .ret) (sr [mt 18 2,aI 19 .lss 18 1,mt 20 19,mg 21 20 false 2,A2 22 20 false (.ari .gtr (.t 21) (cI 20)),
  CQ 23 20 22,mt 17 23] (.cond (.t 17) (sr [A1 24 (.mkif 74 (cI 2)),A1 6 (.mv (.c .nilp)),mt 7 24] .ret) .skip))))) (sr [mt 25 0,kl 26 49 [(.t 25)],mt 27 1,kl 28 167 [(.t 27)],A1 29 (.build (.st (.cons zU (.cons .ptr (.cons .ptr .nil)))) [(.f 1,1,(.t 26)),(.f 2,1,(.t 28))]),A1 8 (.alloc (.st (.cons zU (.cons .ptr (.cons .ptr .nil))))),sb 3 8 29] (sr [la 30 3 8,A1 31 (.bsl 3 1 (.st (.cons zU (.cons .ptr (.cons .ptr .nil)))) [(.i 3 0,3,(.t 30))]),mt 32 2,A1 33 (.mkmap zU zD),A1 34 (.mkmap (.ar 32 zU) zD),A1 35 (.build (.st (.cons .slice (.cons zI (.cons .map (.cons .map .nil))))) [(.f 0,1,(.t 31)),(.f 1,1,(.t 32)),(.f 2,1,(.t 33)),(.f 3,1,(.t 34))]),
  bX 36 35,mt 6 36,mn 7] .ret))))
def Aq5:LF:=⟨Asi,3,0,37,[.tmp 6,.tmp 7]⟩
def Anx:LC:=(sr [aB 2 32,mn 3] (.seq (sr [mt 4 0,A1 5 (.eq false true .ptr (.t 4) (.c .nilp))] (.cond (.t 5) (sr [A1 6 (.build zD []),A1 7 (.mkif 74 (cI 1)),sb 32 2 6,mt 3 7] .ret) .skip)) (sr [mt 8 0,mt 9 0,nc 10 9,fa 11 0 10,lb 12 1 11,
  iJ 13 3 12 0,fa 14 1 13,lb 15 1 14,kl 16 274 [(.t 8),(.t 15)],ee 17 16 0,ee 18 16 1,sb 32 2 17,mt 3 18] .ret)))
def Ag3:LF:=⟨Anx,1,0,19,[.cell 2 true 32,.tmp 3]⟩
def R1:LC:=(sr [aB 4 32,mn 5] (.seq (.block 0 (sr [mt 12 0,A1 13 (.eq false true .ptr (.t 12) (.c .nilp)),mt 11 13] (.cond (.t 11) (sr [A1 14 (.build zD []),A1 15 (.mkif 74 (cI 1)),sb 32 4 14,mt 5 15] .ret) (sr [mt 17 1,mt 18 0,nc 19 18,fa 20 1 19,lb 21 1 20,
  aV 22 .shl 1 21,ak 23 .geq 17 22,mt 16 23] (.cond (.t 16) (sr [A1 24 (.build zD []),A1 25 (.mkif 74 (cI 2)),sb 32 4 24,mt 5 25] .ret) .skip))))) (sr [mt 26 0,mt 27 1,
  aU 28 .add 27 1,kl 29 275 [(.t 26),(.t 28)],A1 6 (.alloc (.st (.cons zU (.cons .ptr (.cons .ptr .nil))))),sb 3 6 29] (.seq (.seq (.regd [⟨0,0,mt 31 0⟩,⟨1,1,nc 32 31⟩,⟨2,3,fa 33 2 32⟩,⟨3,7,lb 34 1 33⟩,⟨4,0,fa 35 0 6⟩,⟨5,16,lb 36 1 35⟩,⟨6,63,A1 37 (.mlook .int zD true (.t 34) (.t 36))⟩,⟨7,127,mt 30 37⟩,⟨8,255,ee 38 30 0⟩,⟨10,0,aB 7 32⟩,⟨11,1023,sb 32 7 38⟩,⟨9,255,ee 39 30 1⟩,⟨12,4095,mt 8 39⟩]) (sr [mt 40 8] (.cond (.t 40) (sr [la 41 32 7,sb 32 4 41,mn 5] .ret) .skip))) (sr [mt 43 0,fa 44 1 6,lb 45 1 44,kl 46 274 [(.t 43),(.t 45)],mt 42 46,ee 47 42 0,ee 48 42 1,
  aB 9 32,sb 32 9 47,mt 10 48] (.seq (.regd [⟨0,0,mt 49 0⟩,⟨1,1,nc 50 49⟩,⟨2,3,fa 51 2 50⟩,⟨3,7,lb 52 1 51⟩,⟨4,0,fa 53 0 6⟩,⟨5,16,lb 54 1 53⟩,⟨6,0,la 55 32 9⟩,⟨7,127,A0 (.mupd .int (.t 52) (.t 54) (.t 55))⟩]) (sr [la 56 32 9,mt 57 10,sb 32 4 56,mt 5 57] .ret)))))))
def O6:LF:=⟨R1,2,0,58,[.cell 4 true 32,.tmp 5]⟩
def Ae4:LC:=(sr [A1 4 (.alloc zS),mn 5] (.seq (.block 0 (sr [mt 8 0,A1 9 (.eq false true .ptr (.t 8) (.c .nilp)),mt 7 9] (.cond (.t 7) (sr [A1 10 (.build zS []),A1 11 (.mkif 74 (cI 1)),sb 116 4 10,mt 5 11] .ret) (sr [mt 13 1,mt 14 0,nc 15 14,fa 16 1 15,lb 17 1 16,
  aV 18 .shl 1 17,ak 19 .geq 13 18,mt 12 19] (.cond (.t 12) (sr [A1 20 (.build zS []),A1 21 (.mkif 74 (cI 2)),sb 116 4 20,mt 5 21] .ret) .skip))))) (sr [mt 22 0,mt 23 1,kl 24 275 [(.t 22),(.t 23)],A1 6 (.alloc (.st (.cons zU (.cons .ptr (.cons .ptr .nil))))),sb 3 6 24] (sr [fa 25 1 6,lb 26 1 25,fa 27 2 6,lb 28 1 27,kl 29 97 [(.t 26),(.t 28)],ee 30 29 0,ee 31 29 1,sb 116 4 30,mt 5 31] .ret))))
def Aa4:LF:=⟨Ae4,2,0,32,[.cell 4 true 116,.tmp 5]⟩
def Arz:LC:=(sr [A1 2 (.mv (.c .nilp))] (sr [kl 5 222 [],mt 3 5] (.seq (sr [mI 6 0] (.block 0 (.loop (sr [aI 7 .lss 6 8] (.seq (DJ 7 0) (.seq (.block 1 (sr [mt 8 6,mt 4 8] (sr [mt 9 3,A1 10 (.eq false true .ptr (.t 9) (.c .nilp)),mt 11 10,mg 12 11 false 3,mg 13 11 false 4,mg 14 11 false 0,⟨(some 15),.call 223 [(.t 12),(.t 13),(.t 14)],(some (11,false))⟩,A2 16 11 false (.eq true true (.iface [74]) (.t 15) (.c .nili)),
  CQ 17 11 16] (.cond (.t 17) (sr [A1 2 (.mv (.c .nilp))] .ret) .skip)))) (.reg [aI 18 .add 6 1,mt 6 18]))))))) (sr [mt 19 3,mt 2 19] .ret))))
def Ape:LF:=⟨Arz,1,0,20,[.tmp 2]⟩
def Arn:LC:=(sr [bX 5 2,A1 6 (.alloc (.st (.cons zI (.cons zK (.cons zD .nil)))))] (sr [mt 7 0,mt 8 1,A1 9 (.build zK [(.f 0,1,(.t 8))]),la 10 32 5,A1 11 (.build (.st (.cons zI (.cons zK (.cons zD .nil)))) [(.f 0,1,(.t 7)),(.f 1,2,(.t 9)),(.f 3,32,(.t 10))]),sb 35 6 11] .ret))
def Aq0:LF:=⟨Arn,3,0,12,[.cell 6 true 35]⟩
def Aj5:LC:=(sr [aB 4 32,mn 5] (sr [A1 6 (.mv (.c .nils))] (.seq (sr [mI 7 0] (.block 0 (.loop (.seq (sr [mt 12 7,aI 13 .lss 12 8192]
 (DJ 13 0)) (.seq (.block 1 (.reg [mt 16 6,mt 17 0,mt 18 1,nc 19 18,fa 20 0 19,mt 21 7,mt 22 7,aI 23 .add 22 32,A1 24 (.slarr 8192 1 (.t 20) (some (.t 21)) (some (.t 23))),A1 25 (.s2a 32 1 (.t 24)),la 26 32 25,kl 27 363 [(.t 17),(.t 26)],A1 28 (.bsl 32 1 zD [(.i 32 0,32,(.t 27))]),
  aP 29 32 32 16 28,mt 6 29])) (.reg [mt 14 7,aI 15 .add 14 32,mt 7 15])))))) (sr [mt 31 6,kl 32 200 [(cI 8),(.t 31)],mt 30 32,ee 33 30 0,ee 34 30 1,
  aB 8 32,sb 32 8 33,mt 9 34] (sr [mt 36 1,kl 37 55 [(.t 36)],mt 35 37,ee 38 35 0,ee 39 35 1,A1 10 (.alloc zM),sb 19 10 38,mt 11 39] (sr [la 40 32 8,la 41 19 10,kl 42 62 [(.t 40),(.t 41)],mt 43 9,sb 32 4 42,mt 5 43] .ret))))))
def Alr:LF:=⟨Aj5,2,0,44,[.cell 4 true 32,.tmp 5]⟩
def S6:LC:=(sr [A1 4 (.alloc (.st (.cons zU (.cons .ptr (.cons .ptr .nil)))))] (sr [mt 11 0,nc 12 11,fa 13 0 12,lb 14 1 13,
  iJ 15 3 14 0,la 16 3 15,A1 5 (.alloc (.st (.cons zU (.cons .ptr (.cons .ptr .nil))))),sb 3 5 16] (.seq (sr [mt 17 0,nc 18 17,fa 19 0 18,lb 20 1 19,
  lN 21 0 20,
  mI 22 0] (.block 0 (.loop (sr [ak 23 .lss 22 21] (.seq (DJ 23 0) (.seq (.block 1 (sr [ia 24 3 20 22,la 25 3 24,A1 7 (.alloc (.st (.cons zU (.cons .ptr (.cons .ptr .nil))))),sb 3 7 25] (sr [fa 26 0 7,lb 27 1 26,mt 28 1,ak 29 .leq 27 28,mt 30 29,A2 31 30 true (.fadr 0 (.t 7)),A2 32 30 true (.load false 1 (.t 31)),A2 33 30 true (.fadr 0 (.t 5)),A2 34 30 true (.load false 1 (.t 33)),A2 35 30 true (.ari .gtr (.t 32) (.t 34)),
  HR 36 30 35] (.cond (.t 36) (.reg [la 37 3 7,sb 3 5 37]) .skip)))) (.reg [aI 38 .add 22 1,mt 22 38]))))))) (.seq (sr [fa 39 0 5,lb 40 1 39,mt 41 1,ak 42 .eql 40 41,mt 43 42,A2 44 43 false (.fadr 1 (.t 5)),A2 45 43 false (.load false 1 (.t 44)),A2 46 43 false (.nilc (.t 45)),A2 47 43 false (.fadr 8209 (.t 46)),A2 48 43 false (.load false 1 (.t 47)),
  CQ 49 43 48] (.cond (.t 49) (sr [la 50 3 5,sb 3 4 50] .ret) .skip)) (.seq (.regd [⟨1,0,fa 52 1 5⟩,⟨2,1,lb 53 1 52⟩,⟨3,3,kl 54 49 [(.t 53)]⟩,⟨4,0,fa 55 2 5⟩,⟨5,8,lb 56 1 55⟩,⟨6,31,kl 57 167 [(.t 56)]⟩,⟨0,0,mt 51 1⟩,⟨7,127,A1 58 (.build (.st (.cons zU (.cons .ptr (.cons .ptr .nil)))) [(.f 0,1,(.t 51)),(.f 1,1,(.t 54)),(.f 2,1,(.t 57))])⟩,⟨8,0,A1 8 (.alloc (.st (.cons zU (.cons .ptr (.cons .ptr .nil)))))⟩,⟨9,511,sb 3 8 58⟩]) (sr [fa 60 1 8,lb 61 1 60,fa 62 2 8,lb 63 1 62,mt 64 1,fa 65 0 5,lb 66 1 65,ak 67 .sub 64 66,
  DL 68 .i64 67,kl 69 71 [(.t 61),(.t 63),(.t 68)],mt 59 69,ee 70 59 0,ee 71 59 1,mt 9 70,mt 10 71] (sr [fa 72 0 5,lb 73 1 72,mt 74 9,
  DL 75 .u64 74,ak 76 .add 73 75,fa 77 0 8,sb 1 77 76] (.seq (sr [mt 78 0,nc 79 78,fa 80 0 79,lb 81 1 80,
  lN 82 0 81,aI 83 .lss 82 32] (.cond (.t 83) (.regd [⟨1,0,mt 85 0⟩,⟨2,1,nc 86 85⟩,⟨3,3,fa 87 0 86⟩,⟨4,7,lb 88 1 87⟩,⟨5,0,la 89 3 8⟩,⟨6,16,A1 90 (.bsl 3 1 (.st (.cons zU (.cons .ptr (.cons .ptr .nil)))) [(.i 3 0,3,(.t 89))])⟩,⟨7,63,aP 91 3 24 88 90⟩,⟨0,0,mt 84 0⟩,⟨8,255,nc 92 84⟩,⟨9,511,fa 93 0 92⟩,⟨10,1023,sb 1 93 91⟩]) .skip)) (sr [la 94 3 8,sb 3 4 94] .ret)))))))))
def Rp:LF:=⟨S6,2,0,95,[.cell 4 true 3]⟩
def Ao1:LC:=(sr [bX 3 1,
 aB 4 32] (.seq (.regd [⟨0,0,mt 11 0⟩,⟨1,1,nc 12 11⟩,⟨2,3,fa 13 3 12⟩,⟨3,7,lb 14 1 13⟩,⟨4,0,la 15 32 3⟩,⟨5,31,A1 16 (.mlook (.ar 32 1 false .int) zD true (.t 14) (.t 15))⟩,⟨6,63,mt 10 16⟩,⟨7,127,ee 17 10 0⟩,⟨9,0,aB 5 32⟩,⟨10,511,sb 32 5 17⟩,⟨8,127,ee 18 10 1⟩,⟨11,2047,mt 6 18⟩]) (.seq (sr [mt 19 6,A1 20 (.un .not (.t 19))] (.cond (.t 20) (sr [A1 7 (.alloc (.ar 32 zD))] (.seq (sr [la 21 32 3,
  mI 22 0] (.block 0 (.loop (sr [aI 23 .lss 22 32] (.seq (DJ 23 0) (.seq (.block 1 (sr [mt 24 22,A1 25 (.idx 32 1 false (.t 21) (.t 22)),mt 8 24,mt 9 25] (.reg [mt 26 8,ib 27 32 32 7 26,A1 28 (.slarr 32 1 (.t 27) (some (cI 24)) none),mt 29 9,kl 30 312 [(.t 28),(.t 29)]]))) (.reg [aI 31 .add 22 1,mt 22 31]))))))) (sr [A1 33 (.slarr 32 32 (.t 7) none none),kl 34 200 [(cI 5),(.t 33)],mt 32 34,ee 35 32 0,ee 36 32 1,sb 32 5 35]
 (.regd [⟨0,0,mt 37 0⟩,⟨1,1,nc 38 37⟩,⟨2,3,fa 39 3 38⟩,⟨3,7,lb 40 1 39⟩,⟨4,0,la 41 32 3⟩,⟨5,0,la 42 32 5⟩,⟨6,63,A0 (.mupd (.ar 32 1 false .int) (.t 40) (.t 41) (.t 42))⟩])))) .skip)) (sr [la 43 32 5,sb 32 4 43] .ret))))
def Aoq:LF:=⟨Ao1,2,0,44,[.cell 4 true 32]⟩
end Mv
