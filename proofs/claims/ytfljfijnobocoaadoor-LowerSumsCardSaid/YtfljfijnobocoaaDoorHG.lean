/- A part. -/
import Derived.Test.YtfljfijnobocoaaDoorHF
set_option linter.all false
set_option maxRecDepth 4000
set_option maxHeartbeats 2000000
namespace Mv
open Go
def MG:Fu:=⟨0,0,[]⟩
def cd0 (P:List Fu) (base:Int):Cd:=⟨P,base,0,[],[],[],[],[],[],[],0,0⟩
def BJ (P:List Fu) (base:Int):Cd:=A5 (cd0 P base) 26 14 0 0 0 (base - 512)
def CR (P:List Fu) (S:Cd):Nat→Cd
 | 0=>S
 | j + 1=>IY (CR P S j) j (Db P j).toNat (Bi P j).toNat (P.getD j MG).body
def Dv (S:Cd) (cs:List (Nat × Nat)) (en:List Nat) (seen:Nat→Bool):Nat→Cd
 | 0=>S
 | i + 1=>if seen i then Ei (Dv S cs en seen i) (cs.getD i (0,0)).1 (en.getD (cs.getD i (0,0)).2 0) else Dv S cs en seen i
def Bj (P:List Fu) (base:Int):Cd :=
 let F:=CR P (BJ P base) P.length
 let A:=Dv F F.calls F.entries (fun _=>true) F.calls.length
 IW (G1 A A.bad A.bad.length) 18446744073709551615#64
structure FnI (P:List Fu) (base:Int) (c:Nat→Nat) (j:Nat) (T:Cd):Prop where
 eP:T.P=P
 eb:T.base=base
 fr:T.frames.length=j
 en:T.entries.length=j
 wo:T.words.length≤1 + 24 * Be c j + 28 * j
 pos:1≤T.words.length
 wf:WFw T
 cq:∀ p ∈ T.calls,p.2 < P.length
 ev:∀ e ∈ T.entries,e≤T.words.length
 fb:∀ y ∈ T.frames,y≤100000
theorem FnI.zero (P:List Fu) (base:Int) (c:Nat→Nat):FnI P base c 0 (BJ P base) :=
 ⟨rfl,rfl,rfl,rfl,Nat.le_refl 1,Nat.le_refl 1,⟨Nat.zero_le _,Nat.zero_le _,fun p hp=>Q4,fun p hp=>Q4,List.Pairwise.nil⟩,fun p hp=>Q4,fun p hp=>Q4,fun p hp=>Q4⟩
theorem FnI.next {P:List Fu} {base:Int} {c:Nat→Nat} {j:Nat} {T:Cd} (h:FnI P base c j T) (hj:j < P.length) (hb:RB P j 16 (P.getD j MG).body (c j)) (hl:0≤Bi P j∧Bi P j≤24) (hc:c j≤6000) :
 FnI P base c (j + 1) (IY T j (Db P j).toNat (Bi P j).toNat (P.getD j MG).body):=by
 have e:=Alf P T j (Db P j).toNat (Bi P j).toNat _ _ hb Aa h.wf;have q:=Af5 P T j (Db P j).toNat (Bi P j).toNat _ _ hb;obtain ⟨e1,e2,e3,e4,e5,e6,e7⟩:=e;have hs:=C8 c j;refine ⟨e1.trans h.eP,e2.trans h.eb,by rw [e3,Ew,h.fr],by rw [e4,Ew,h.en],?_,Nat.le_trans h.pos e6,e7,fun p hp=>(q p hp).elim (h.cq p) id,fun e he=>?_,fun y hy=>?_⟩
 ·have:=h.wo;omega
 ·rw [e4] at he;rcases List.mem_append.1 he with he | he
  ·exact Nat.le_trans (h.ev e he) e6
  ·simp at he;subst he;exact e6
 ·rw [e3] at hy;rcases List.mem_append.1 hy with hy | hy
  ·exact h.fb y hy
  ·rw [List.mem_singleton] at hy;subst hy;have g:=(Nv P T j (Db P j).toNat (Bi P j).toNat _ _ hb Aa).most;have g0:(Dt T j).most=0:=rfl;omega
theorem Ng (P:List Fu) (base:Int) (c:Nat→Nat) (hb:∀ j,j < P.length→RB P j 16 (P.getD j MG).body (c j)) (hl:∀ j,j < P.length→0≤Bi P j∧Bi P j≤24) (hc:Be c P.length≤6000):∀ j,j≤P.length→FnI P base c j (CR P (BJ P base) j)
 | 0,_=>FnI.zero P base c
 | j + 1,h=>(Ng P base c hb hl hc j Aa).next Aa (hb j Aa) (hl j Aa) (by have:=DF c (show j < P.length by omega);omega)
theorem FW (S:Cd) (cs:List (Nat × Nat)) (en:List Nat) (seen:Nat→Bool):∀ j,(Dv S cs en seen j).P=S.P∧(Dv S cs en seen j).base=S.base∧(Dv S cs en seen j).fn=S.fn∧(Dv S cs en seen j).frames=S.frames∧(Dv S cs en seen j).entries=S.entries∧(Dv S cs en seen j).calls=S.calls∧(Dv S cs en seen j).bad=S.bad∧(Dv S cs en seen j).steps=S.steps∧(Dv S cs en seen j).backs=S.backs∧(Dv S cs en seen j).temps=S.temps∧(Dv S cs en seen j).most=S.most∧(Dv S cs en seen j).words.length=S.words.length
 | 0=>⟨rfl,rfl,rfl,rfl,rfl,rfl,rfl,rfl,rfl,rfl,rfl,rfl⟩
 | j + 1 => by
   have h:=FW S cs en seen j;simp only [Dv];split
   ·refine ⟨h.1,h.2.1,h.2.2.1,h.2.2.2.1,h.2.2.2.2.1,h.2.2.2.2.2.1,h.2.2.2.2.2.2.1,h.2.2.2.2.2.2.2.1,h.2.2.2.2.2.2.2.2.1,h.2.2.2.2.2.2.2.2.2.1,h.2.2.2.2.2.2.2.2.2.2.1,?_⟩;rw [Hl];exact h.2.2.2.2.2.2.2.2.2.2.2
   ·exact h
def Fo (seen:Nat→Bool) (k i:Nat):Bool:=if i=k then true else seen i
theorem JG (S:Cd) (cs:List (Nat × Nat)) (en:List Nat) (f g:Nat→Bool):∀ j,(∀ i,i < j→f i=g i)→Dv S cs en f j=Dv S cs en g j
 | 0,_=>rfl
 | j + 1, h => by
   have ih:=JG S cs en f g j fun i hi=>h i Aa;simp only [Dv,h j Aa,ih]
theorem Pk (S:Cd) (cs:List (Nat × Nat)) (en:List Nat):∀ j,Dv S cs en (fun _=>false) j=S
 | 0=>rfl
 | j + 1=>by simp only [Dv,O3];exact Pk S cs en j
theorem FU (l:List (BitVec 64)) {a b:Nat} (h:a ≠ b) (w d:BitVec 64):(l.set a w).getD b d=l.getD b d:=by
 simp only [List.getD_eq_getElem?_getD,List.getElem?_set,h,if_false]
theorem YJ (S:Cd) {a b:Nat} (h:a ≠ b) (m n:Nat):Ei (Ei S a m) b n=Ei (Ei S b n) a m:=by
 simp only [Ei,FU _ h,FU _ (Ne.symm h)];rw [List.set_comm _ _ h]
theorem SN (S:Cd) (cs:List (Nat × Nat)) (en:List Nat) (seen:Nat→Bool) (k:Nat) (hk:seen k=false):∀ j,k < j→(∀ i,i < j→i ≠ k→(cs.getD i (0,0)).1 ≠ (cs.getD k (0,0)).1) →
 Dv S cs en (Fo seen k) j=Ei (Dv S cs en seen j) (cs.getD k (0,0)).1 (en.getD (cs.getD k (0,0)).2 0)
 | 0,h,_=>by omega
 | j + 1, h, hd => by
   by_cases hjk:j=k
   ·subst hjk;have e:Dv S cs en (Fo seen j) j=Dv S cs en seen j:=JG S cs en _ _ j fun i hi=>by simp [Fo,show i ≠ j by omega]
    simp only [Dv,Fo,Lbn,hk];rw [e]
   ·have ih:=SN S cs en seen k hk j Aa fun i hi=>hd i Aa;have e:Fo seen k j=seen j:=by simp [Fo,hjk]
    simp only [Dv,e];split
    ·rw [ih,YJ _ (fun h'=>hd j Aa hjk h'.symm)]
    ·exact ih
theorem Aby (S:Cd) (cs:List (Nat × Nat)) (en:List Nat) (seen:Nat→Bool) (n:Nat) (h:∀ i,i < n→seen i=true):Dv S cs en seen n=Dv S cs en (fun _=>true) n:=JG S cs en _ _ n h
theorem Am3 {cs:List (Nat × Nat)} (h:cs.Pairwise fun p q=>p.1 < q.1) {i k:Nat} (hi:i < cs.length) (hk:k < cs.length) (hne:i ≠ k):(cs.getD i (0,0)).1 ≠ (cs.getD k (0,0)).1:=by
 rw [List.getD_eq_getElem?_getD,List.getElem?_eq_getElem hi,List.getD_eq_getElem?_getD,List.getElem?_eq_getElem hk];simp only [Option.getD_some];rcases Nat.lt_or_gt_of_ne hne with hlt | hlt
 ·have:=List.pairwise_iff_getElem.1 h i k hi hk hlt;omega
 ·have:=List.pairwise_iff_getElem.1 h k i hk hi hlt;omega
def DS (seen:Nat→Bool):Nat→Nat
 | 0=>0
 | i + 1=>DS seen i + if seen i then 0 else 1
theorem IG (f g:Nat→Bool):∀ j,(∀ i,i < j→f i=g i)→DS f j=DS g j
 | 0,_=>rfl
 | j + 1,h=>by simp only [DS,h j Aa,IG f g j fun i hi=>h i Aa]
theorem JH (seen:Nat→Bool) (k:Nat) (hk:seen k=false):∀ j,k < j→DS (Fo seen k) j < DS seen j
 | 0,h=>by omega
 | j + 1, h => by
   by_cases hjk:j=k
   ·subst hjk;have e:DS (Fo seen j) j=DS seen j:=IG _ _ j fun i hi=>by simp [Fo,show i ≠ j by omega]
    simp only [DS,e,hk];simp [Fo]
   ·have ih:=JH seen k hk j Aa;have e:Fo seen k j=seen j:=by simp [Fo,hjk]
    simp only [DS,e];omega
theorem X8 (w:BitVec 64) (n:Nat) (hn:n < 4294967296):O4 (O4 w n) n=O4 w n:=by
 have t:∀ x:BitVec 64,(O4 x n).toNat=x.toNat / 4294967296 * 4294967296 + n:=fun x=>by
  have hx:=x.isLt;unfold O4;rw [BitVec.toNat_or,BitVec.toNat_shiftLeft,BitVec.toNat_ushiftRight,BitVec.toNat_ofNat,Nat.shiftRight_eq_div_pow,Nat.shiftLeft_eq,show (2:Nat) ^ 32=4294967296 by decide,Nat.mod_eq_of_lt Aa,Nat.mod_eq_of_lt Aa];have:=N7 (x.toNat / 4294967296) n 32 Aa;rw [Nat.shiftLeft_eq,show (2:Nat) ^ 32=4294967296 by decide] at this;exact this
 apply BitVec.eq_of_toNat_eq;rw [t,t];omega
theorem Ix (S:Cd) (a n i:Nat) (ha:a < S.words.length):(Ei S a n).words.getD i 0#64=if i=a then O4 (S.words.getD i 0#64) n else S.words.getD i 0#64:=by
 unfold Ei;dsimp only;by_cases h:i=a
 ·subst h;rw [if_pos rfl,List.getD_eq_getElem?_getD,List.getElem?_set_self ha];rfl
 ·rw [if_neg h,FU _ (Ne.symm h)]
theorem Zz (S:Cd) (n:Nat) (hn:n < 4294967296) (l:List Nat) (hl:∀ i ∈ l,i < S.words.length) (i:Nat):∀ j,j≤l.length→(Fw S n l j).words.getD i 0#64=if i ∈ l.take j then O4 (S.words.getD i 0#64) n else S.words.getD i 0#64
 | 0,_=>by simp [Fw]
 | j + 1, h => by
   have ih:=Zz S n hn l hl i j Aa;have e:l.getD j 0=l[j]:=by rw [List.getD_eq_getElem?_getD,List.getElem?_eq_getElem Aa];rfl
   have hj:l[j] < (Fw S n l j).words.length:=by rw [(Fq S n l j).2.2.2.2.2.2.2.2.2.2.2];exact hl _ (List.getElem_mem _)
   rw [List.take_succ_eq_append_getElem Aa];simp only [Fw,e];rw [Ix _ _ _ _ hj,ih];simp only [List.mem_append,List.mem_singleton];by_cases h1:i=l[j]
   ·by_cases h2:i ∈ l.take j
    ·simp only [h1,h2,if_true,or_true,true_or];simp only [h1] at h2;simp only [h2,if_true];exact X8 _ _ hn
    ·simp only [h2,Dh,h1,or_true];simp only [h1] at h2;simp only [h2,if_false]
   ·by_cases h2:i ∈ l.take j
    ·simp only [h1,h2,Dh,or_false]
    ·simp only [h1,h2,or_false,if_false]
def rt (e b:Ex):List IrSt:=[.mk 5 0 e b [] []]
def r1 (S:Cd) (i lc:Nat):Cd:=A5 (Dt S i) 28 0 14 15 0 lc
def r5 (T:Cd):Cd:=Ga (A5 (KY T) 26 0 0 0 0 0) T.words.length
theorem An1 (T:Cd) (i:Nat) (hi:i < T.words.length):(r5 T).words.getD i 0#64=T.words.getD i 0#64:=by
 have l1:(KY T).words.length=T.words.length + 1:=Aj T 29 0 0 0 0 0;unfold r5 Ga;rw [Ix _ _ _ _ (by rw [Aj,l1];omega),if_neg Aa];show ((T.words ++ [_]) ++ [_]).getD i 0#64=_;rw [C0,if_pos F6,C0,if_pos hi]
theorem HZ (T:Cd):(r5 T).words.length=T.words.length + 2:=by
 unfold r5;rw [Jm,Aj,M0,Aj]
theorem Aiz (T:Cd) (h:T.words.length + 2 < 2147483648):(r5 T).words.getD T.words.length 0#64=Bn (29:Nat) 0 0 0 0 ((T.words.length + 2:Nat):Int):=by
 have l1:(KY T).words.length=T.words.length + 1:=Aj T 29 0 0 0 0 0;unfold r5 Ga;rw [Ix _ _ _ _ (by rw [Aj,l1];omega),if_pos rfl,Aj,l1];have e:(A5 (KY T) 26 0 0 0 0 0).words.getD T.words.length 0#64=Bn (29:Nat) 0 0 0 0 0:=by
  show ((T.words ++ [_]) ++ [_]).getD _ 0#64=_;rw [C0,if_pos BF,CD];rfl
 rw [e];exact IZ 29 0 0 0 0 0 _ Aa Aa Aa Aa Aa h
theorem Sp (T:Cd) (i:Nat) (lc:Int) (j:Nat) (hj:j < T.words.length):(BZ T i lc).words.getD j 0#64=T.words.getD j 0#64:=by
 unfold BZ;split
 ·exact (Ext.ei ..).pre j hj
 ·exact ((Ext.ei T 27 15 14 0 0 lc).trans (Ext.ei ..)).pre j hj
theorem PB (S:Cd) (i lc:Nat) (e b:Ex):GB S i lc lc (rt e b)=BZ (r5 (AO 8 e 0 (r1 S i lc))) i lc:=by
 have hb:(AO 8 e 0 (r1 S i lc)).backs=[]:=CF 8 e 0 (r1 S i lc);have e1:IT S i lc lc (rt e b)=A5 (KY (AO 8 e 0 (r1 S i lc))) 26 0 0 0 0 0:=by
  unfold IT;rw [Nat.sub_self];rfl
 unfold GB
 rw [e1,show (A5 (KY (AO 8 e 0 (r1 S i lc))) 26 0 0 0 0 0).backs=[(AO 8 e 0 (r1 S i lc)).words.length] by
  show (AO 8 e 0 (r1 S i lc)).backs ++ _=_
  rw [hb];rfl]
 rfl
theorem XD (T:Cd) (i:Nat) (lc:Int):(BZ T i lc).words.length=T.words.length + if i=0 then 1 else 2:=by
 unfold BZ;split
 ·rw [Aj]
 ·rw [Aj,Aj]
theorem Ahf (T:Cd) (i:Nat) (lc:Int):(BZ (r5 T) i lc).steps=T.steps∧(BZ (r5 T) i lc).calls=T.calls∧(BZ (r5 T) i lc).bad=T.bad∧(BZ (r5 T) i lc).most=T.most∧(BZ (r5 T) i lc).entries=T.entries:=by
 unfold BZ;split <;> exact ⟨rfl,rfl,rfl,rfl,rfl⟩
structure FnW (S T:Cd) (i lc n:Nat) (U:Cd):Prop where
 len:T.words.length=U.words.length + 2 + if i=0 then 1 else 2
 steps:T.steps=U.steps
 calls:T.calls=U.calls
 bad:T.bad=U.bad
 entries:T.entries=S.entries ++ [S.words.length]
 at':∀ j,j < U.words.length→T.words.getD j 0#64=if j ∈ U.steps then O4 (U.words.getD j 0#64) n else U.words.getD j 0#64
 jmp:T.words.getD U.words.length 0#64=Bn (29:Nat) 0 0 0 0 ((U.words.length + 2:Nat):Int)
 hlt:i=0→T.words.getD (U.words.length + 2) 0#64=Bn (0:Nat) 0 0 0 0 0
 ld:i ≠ 0→T.words.getD (U.words.length + 2) 0#64=Bn (27:Nat) 15 14 0 0 lc
 jr:i ≠ 0→T.words.getD (U.words.length + 3) 0#64=Bn (33:Nat) 0 15 0 0 0
theorem Wj (S:Cd) (i lc:Nat) (e b:Ex) (hS:WFw S) (hst:∃ m n,Sta (r1 S i lc) (AO 8 e 0 (r1 S i lc)) 0 m n) (hb:(AO 8 e 0 (r1 S i lc)).words.length < 2147483000) (hn:lc + 1 + (AO 8 e 0 (r1 S i lc)).most < 2147483648) :
 FnW S (IY S i lc lc (rt e b)) i lc (lc + 1 + (AO 8 e 0 (r1 S i lc)).most) (AO 8 e 0 (r1 S i lc))∧WFc (AO 8 e 0 (r1 S i lc))∧(IY S i lc lc (rt e b)).words.length=(GB S i lc lc (rt e b)).words.length:=by
 obtain ⟨m,n,st⟩:=hst;have w0:WFc (r1 S i lc):=(FH hS i).ei ..;have w2:=st.wf w0;have hen:(AO 8 e 0 (r1 S i lc)).entries=S.entries ++ [S.words.length]:=st.entries;unfold IY;rw [PB];generalize AO 8 e 0 (r1 S i lc)=U at *
 obtain ⟨q1,q2,q3,q4,q5⟩:=Ahf U i lc;have lX:(BZ (r5 U) i lc).words.length=U.words.length + 2 + if i=0 then 1 else 2:=by rw [XD,HZ]
 rw [q4,q1];have hP:=Fq (FA (BZ (r5 U) i lc) (lc + 1 + U.most)) (lc + 1 + U.most) U.steps U.steps.length;have lF:(FA (BZ (r5 U) i lc) (lc + 1 + U.most)).words=(BZ (r5 U) i lc).words:=rfl;have hA:=fun j=>Zz (FA (BZ (r5 U) i lc) (lc + 1 + U.most)) (lc + 1 + U.most) Aa U.steps (fun x hx=>by rw [lF,lX];have:=w2.sk x hx;split <;> omega) j U.steps.length (Nat.le_refl _);rw [lF] at hA;simp only [List.take_length] at hA;refine ⟨⟨?_,?_,?_,?_,?_,fun j hj=>?_,?_,fun h0=>?_,fun h0=>?_,fun h0=>?_⟩,w2,?_⟩
 ·rw [hP.2.2.2.2.2.2.2.2.2.2.2,lF,lX]
 ·rw [hP.2.2.2.2.2.2.2.1];exact q1
 ·rw [hP.2.2.2.2.2.1];exact q2
 ·rw [hP.2.2.2.2.2.2.1];exact q3
 ·rw [hP.2.2.2.2.1];exact q5.trans hen
 ·rw [hA,Sp _ _ _ _ (by rw [HZ];omega),An1 _ _ hj]
 ·rw [hA,if_neg (fun h=>by have:=w2.sk _ h;omega),Sp _ _ _ _ (by rw [HZ];omega),Aiz _ Aa]
 ·rw [hA,if_neg (fun h=>by have:=w2.sk _ h;omega)];unfold BZ;rw [if_pos h0,← HZ U];exact CD _ _
 ·rw [hA,if_neg (fun h=>by have:=w2.sk _ h;omega)];unfold BZ;rw [if_neg h0,← HZ U,(Ext.ei (A5 (r5 U) 27 15 14 0 0 lc) 33 0 15 0 0 0).pre _ U4];exact CD _ _
 ·rw [hA,if_neg (fun h=>by have:=w2.sk _ h;omega)];unfold BZ;rw [if_neg h0,show U.words.length + 3=(A5 (r5 U) 27 15 14 0 0 lc).words.length by rw [Aj,HZ]];exact CD _ _
 ·rw [hP.2.2.2.2.2.2.2.2.2.2.2,lF]
theorem Sd (S:Cd) (cs:List (Nat × Nat)) (en:List Nat) (hl:∀ p ∈ cs,p.1 < S.words.length) (i:Nat) (hi:∀ p ∈ cs,p.1 ≠ i):∀ j,j≤cs.length→(Dv S cs en (fun _=>true) j).words.getD i 0#64=S.words.getD i 0#64
 | 0,_=>rfl
 | j + 1, h => by
   have ih:=Sd S cs en hl i hi j Aa;have e:cs.getD j (0,0)=cs[j]:=by rw [List.getD_eq_getElem?_getD,List.getElem?_eq_getElem Aa];rfl
   have hm:cs[j] ∈ cs:=List.getElem_mem _;simp only [Dv,if_true,e];rw [Ix _ _ _ _ (by rw [(FW S cs en _ j).2.2.2.2.2.2.2.2.2.2.2];exact hl _ hm),if_neg (Ne.symm (hi _ hm)),ih]
theorem Tb (S:Cd) (cs:List (Nat × Nat)) (en:List Nat) (hl:∀ p ∈ cs,p.1 < S.words.length) (hp:cs.Pairwise fun p q=>p.1 < q.1) (k:Nat) (hk:k < cs.length):∀ j,k < j→j≤cs.length→(Dv S cs en (fun _=>true) j).words.getD cs[k].1 0#64=O4 (S.words.getD cs[k].1 0#64) (en.getD cs[k].2 0)
 | 0,h,_=>by omega
 | j + 1, h, hj => by
   have e:cs.getD j (0,0)=cs[j]:=by rw [List.getD_eq_getElem?_getD,List.getElem?_eq_getElem Aa];rfl
   have hm:cs[j] ∈ cs:=List.getElem_mem _;have hlen:=(FW S cs en (fun _=>true) j).2.2.2.2.2.2.2.2.2.2.2;simp only [Dv,if_true,e];rw [Ix _ _ _ _ (by rw [hlen];exact hl _ hm)];by_cases hkj:k=j
   ·subst hkj;rw [if_pos rfl]
    congr 1
    have:∀ j,j≤k→(Dv S cs en (fun _=>true) j).words.getD cs[k].1 0#64=S.words.getD cs[k].1 0#64:=fun j=>by
     induction j with
     | zero=>intro _;rfl
     | succ j ih =>
       intro hjk;have e:cs.getD j (0,0)=cs[j]:=by rw [List.getD_eq_getElem?_getD,List.getElem?_eq_getElem Aa];rfl
       have:=List.pairwise_iff_getElem.1 hp j k Aa hk Aa;simp only [Dv,if_true,e];rw [Ix _ _ _ _ (by rw [(FW S cs en _ j).2.2.2.2.2.2.2.2.2.2.2];exact hl _ (List.getElem_mem _)),if_neg Aa,ih Aa]
    exact this k (Nat.le_refl _)
   ·have:=List.pairwise_iff_getElem.1 hp k j hk Aa Aa;rw [if_neg Aa];exact Tb S cs en hl hp k hk j Aa Aa
def MO (f:Ex→List Nat→List Nat) (as:List Ex) (l:List Nat):Nat→List Nat
 | 0=>l
 | j + 1=>f (as.getD j Ch) (MO f as l j)
def KZ (op:Int) (n:BitVec 64) (l:List Nat):List Nat:=if op=29 then l ++ [n.toNat] else l
def Hg:Nat→Ex→List Nat→List Nat
 | 0,_,l=>l
 | k + 1,.mk op n as,l=>MO (Hg k) as (KZ op n l) as.length
def Je (bl:List IrSt→List Nat→List Nat):IrSt→List Nat→List Nat
 | .mk kind _ a b body els, l =>
   if kind=2 then Hg 8 b (Hg 8 a l)
   else if kind=3 then bl els (bl body (Hg 8 a l))
   else if kind=4 then bl body (Hg 8 a l)
   else Hg 8 a l
def SL (f:IrSt→List Nat→List Nat) (ss:List IrSt) (l:List Nat):Nat→List Nat
 | 0=>l
 | j + 1=>f (ss.getD j PD) (SL f ss l j)
def cbS:Nat→IrSt→List Nat→List Nat
 | 0=>Je fun _ l=>l
 | k + 1=>Je fun ss l=>SL (cbS k) ss l ss.length
def cbF (body:List IrSt):List Nat:=SL (cbS 15) body [] body.length
def Vz (mo l:List Nat):Nat→Nat
 | 0=>0
 | j + 1=>max (Vz mo l j) (mo.getD (l.getD j 0) 0)
def JY (P:List Fu) (fr:List Nat):Nat→List Nat
 | 0=>fr
 | k + 1=>(JY P fr k).set (P.length - 1 - k) ((JY P fr k).getD (P.length - 1 - k) 0 + Vz (JY P fr k) (cbF (P.getD (P.length - 1 - k) MG).body) (cbF (P.getD (P.length - 1 - k) MG).body).length)
def neS (P:List Fu) (fr:List Nat):Nat:=(JY P fr P.length).getD 0 0
structure Clq (K:Nat) (l m:List Nat) (c:Nat):Prop where
 len:m.length≤l.length + c
 lt:(∀ x ∈ l,x < K)→∀ x ∈ m,x < K
theorem Clq.refl (K:Nat) (l:List Nat) (c:Nat):Clq K l l c:=⟨by omega,fun h=>h⟩
theorem Clq.trans {K:Nat} {l m n:List Nat} {c d:Nat} (h:Clq K l m c) (g:Clq K m n d):Clq K l n (c + d):=⟨by have:=h.len;have:=g.len;omega,fun q=>g.lt (h.lt q)⟩
theorem Clq.mono {K:Nat} {l m:List Nat} {c d:Nat} (h:Clq K l m c) (hd:c≤d):Clq K l m d:=⟨by have:=h.len;omega,h.lt⟩
theorem FV (P:List Fu) (i:Nat):∀ (k:Nat) (x:Ex) (c:Nat),RE P i k x c→1≤c∧∀ l,Clq P.length l (Hg k x l) c
 | 0,_,_,h=>by cases h
 | k + 1, .mk op n as, _, .mk _ _ _ _ c hn hl ha => by
   refine ⟨by omega,fun l=>?_⟩;have es:((List.range as.length).map c).sum=Be c as.length:=rfl;rw [es];have h0:Clq P.length l (KZ op n l) 1:=by
    unfold KZ;split
    ·rename_i h29;have hlt:n.toNat < P.length:=by
      cases hn with
      | call n as h1 h2 h3=>exact h2
      | ar op n as h1 h2 h3=>omega
      | con n=>exact absurd h29 Ab
      | loc n h1 h2=>exact absurd h29 Ab
      | load n a=>exact absurd h29 Ab
      | hash n a b=>exact absurd h29 Ab
      | pre n a b=>exact absurd h29 Ab
     refine ⟨by simp,fun h x hx=>?_⟩;rcases List.mem_append.1 hx with hx | hx
     ·exact h x hx
     ·simp at hx;omega
    ·exact Clq.refl _ _ _
   have hA:∀ j,j≤as.length→Clq P.length l (MO (Hg k) as (KZ op n l) j) (1 + Be c j):=fun j=>by
    induction j with
    | zero=>intro _;exact h0.mono Aa
    | succ j ih =>
      intro h;have e:=C8 c j;have hj:j < as.length:=h;have g:=(FV P i k as[j] (c j) (ha j hj)).2 (MO (Hg k) as (KZ op n l) j);rw [show as[j]=as.getD j Ch by rw [List.getD_eq_getElem?_getD,List.getElem?_eq_getElem hj];rfl] at g;exact ((ih Aa).trans g).mono Aa
   exact hA as.length (Nat.le_refl _)
theorem OO {K:Nat} {f:IrSt→List Nat→List Nat} {ss:List IrSt} {c:Nat→Nat} (hf:∀ j,j < ss.length→∀ l,Clq K l (f (ss.getD j PD) l) (c j)) (l:List Nat):∀ j,j≤ss.length→Clq K l (SL f ss l j) (Be c j)
 | 0,_=>Clq.refl _ _ _
 | j + 1, h => by
   have e:=C8 c j;exact ((OO hf l j Aa).trans (hf j Aa _)).mono Aa
theorem Y5 (P:List Fu) (i l:Nat) (bl:List IrSt→List Nat→List Nat) (hbl:∀ ss c,RB P i l ss c→∀ L,Clq P.length L (bl ss L) c):∀ (s:IrSt) (c:Nat),RgS P i l s c→∀ L,Clq P.length L (Je bl s L) c:=by
 intro s c h L;cases h with
 | set _ n a b bo el ca h0 h1 ha =>
   simp only [Je,show ((1:Int)=2)=False by decide,show ((1:Int)=3)=False by decide,show ((1:Int)=4)=False by decide,if_false];exact ((FV P i 8 a ca ha).2 L).mono Aa
 | store _ n a b bo el ca cb ha hb =>
   simp only [Je,if_true];exact (((FV P i 8 a ca ha).2 L).trans ((FV P i 8 b cb hb).2 _)).mono Aa
 | branch _ n a b bo el ca cb ce ha hb he =>
   simp only [Je,show ((3:Int)=2)=False by decide,Dh];exact ((((FV P i 8 a ca ha).2 L).trans (hbl bo cb hb _)).trans (hbl el ce he _)).mono Aa
 | loop _ n a b bo el ca cb ha hb =>
   simp only [Je,show ((4:Int)=2)=False by decide,show ((4:Int)=3)=False by decide,Dh];exact (((FV P i 8 a ca ha).2 L).trans (hbl bo cb hb _)).mono Aa
 | other _ k n a b bo el ca h5 h7 ha =>
   simp only [Je];rw [if_neg Aa,if_neg Aa,if_neg Aa];exact ((FV P i 8 a ca ha).2 L).mono Aa
theorem VI (P:List Fu) (i:Nat):∀ (k:Nat) (s:IrSt) (c:Nat),RgS P i k s c→∀ l,Clq P.length l (cbS k s l) c
 | 0=>Y5 P i 0 _ fun ss c h L=>Clq.refl _ _ _
 | k + 1 => Y5 P i (k + 1) _ fun ss c h L => by
   cases h with
   | mk _ _ c hl h =>
     exact OO (c:=c) (fun j hj l=>by
      rw [List.getD_eq_getElem?_getD,List.getElem?_eq_getElem hj]
      exact VI P i k ss[j] (c j) (h j hj) l) L ss.length (Nat.le_refl _)
theorem Apc (P:List Fu) (i:Nat) (body:List IrSt) (c:Nat) (h:RB P i 16 body c):Clq P.length [] (cbF body) c:=by
 cases h with
 | mk _ _ c hl h =>
   exact OO (c:=c) (fun j hj l=>by
    rw [List.getD_eq_getElem?_getD,List.getElem?_eq_getElem hj]
    exact VI P i 15 body[j] (c j) (h j hj) l) [] body.length (Nat.le_refl _)
theorem Ru (mo l:List Nat) (B:Nat) (hm:∀ x ∈ mo,x≤B):∀ j,Vz mo l j≤B
 | 0=>Nat.zero_le _
 | j + 1 => by
   have h:=Ru mo l B hm j;have h2:mo.getD (l.getD j 0) 0≤B:=by
    rw [List.getD_eq_getElem?_getD];cases he:mo[l.getD j 0]? with
    | none=>exact Nat.zero_le _
    | some x=>exact hm x (List.mem_of_getElem? he)
   simp only [Vz];omega
theorem RQ (P:List Fu) (fr:List Nat):∀ k,(JY P fr k).length=fr.length
 | 0=>rfl
 | k + 1=>by simp only [JY,List.length_set];exact RQ P fr k
theorem Yj (P:List Fu) (fr:List Nat):∀ k,k≤P.length→∀ i,i + k < P.length→(JY P fr k).getD i 0=fr.getD i 0
 | 0,_,i,_=>rfl
 | k + 1, h, i, hi => by
   have ih:=Yj P fr k Aa i Aa;simp only [JY,List.getD_eq_getElem?_getD,List.getElem?_set] at ih ⊢;rw [if_neg Aa];exact ih
theorem Rt (P:List Fu) (fr:List Nat) (F:Nat) (hF:∀ x ∈ fr,x≤F):∀ k,k≤P.length→∀ x ∈ JY P fr k,x≤(k + 1) * F
 | 0,_,x,hx=>by rw [Nat.zero_add,Nat.one_mul];exact hF x hx
 | k + 1, h, x, hx => by
   have ih:=Rt P fr F hF k Aa;have e:(k + 1 + 1) * F=(k + 1) * F + F:=by rw [Nat.succ_mul (k + 1)]
   rw [e];simp only [JY] at hx;rcases List.mem_or_eq_of_mem_set hx with hx | rfl
   ·have:=ih x hx;omega
   ·have h1:=Ru (JY P fr k) (cbF (P.getD (P.length - 1 - k) MG).body) ((k + 1) * F) ih (cbF (P.getD (P.length - 1 - k) MG).body).length;have h2:(JY P fr k).getD (P.length - 1 - k) 0≤F:=by
     rw [Yj P fr k Aa _ Aa,List.getD_eq_getElem?_getD];cases he:fr[P.length - 1 - k]? with
     | none=>exact Nat.zero_le _
     | some x=>exact hF x (List.mem_of_getElem? he)
    omega
def Bc (j:Nat):Ex:=.mk 27 (BitVec.ofNat 64 j) []
def lcs (n:Nat):List Ex:=(List.range n).map Bc
def fX (k n:Nat):Ex:=.mk (k:Int) 0#64 (lcs n)
def mX (x y:Ex):Ex:=.mk 2 0#64 [x,y]
def pS (k n:Nat) (x y:Ex):List Fu:=[⟨0,0,rt (mX x y) Ch⟩,⟨3,3,rt (fX k n) Ch⟩]
def Lr (S:Cd):Nat→Cd
 | 0=>S
 | j + 1=>A5 (Lr S j) 27 (1 + j) 14 0 0 (j:Nat)
theorem Amk (k n:Nat) (S:Cd) (hk:k≤25) (hn:n=1 ∨ n=2 ∨ n=3):AO 8 (fX k n) 0 S=A5 (Bp (Lr S n) S.temps) k 0 1 2 3 0:=by
 unfold fX;rw [AO,if_pos Aa];rcases hn with rfl | rfl | rfl <;> rfl
theorem Afw (x y:Ex) (S:Cd) (hx:Jl x=false) (hy:Jl y=false):AO 8 (mX x y) 0 S=A5 (Bp (A5 (AO 7 y 2 (CI (AO 7 x 1 S) 1)) 27 1 14 0 0 (Eb (AO 7 y 2 (CI (AO 7 x 1 S) 1)) S.temps)) S.temps) 2 0 1 2 3 0:=by
 unfold mX;rw [AO,if_pos Aa];have e1:BB [x,y] 2=1:=by simp [BB,hy]
 have e2:Fz (AO 7) [x,y] 1 S 2=([0],AO 7 y 2 (CI (AO 7 x 1 S) 1)):=by
  have e3:Fz (AO 7) [x,y] 1 S 1=([0],CI (AO 7 x 1 S) 1):=by simp [Fz,hx]
  rw [Fz];simp only [e3];simp [hy]
 have e4:∀ T,Lj (AO 7) [x,y] T 2=T:=fun T=>by simp [Lj,hx,hy]
 unfold NO;rw [show [x,y].length=2 from rfl,e1,e2,e4];rfl
theorem Qt (S:Cd):∀ n,(Lr S n).steps=S.steps∧(Lr S n).calls=S.calls∧(Lr S n).bad=S.bad∧(Lr S n).most=S.most∧(Lr S n).temps=S.temps∧(Lr S n).words.length=S.words.length + n∧∃ m q,Sta S (Lr S n) 0 m q
 | 0=>⟨rfl,rfl,rfl,rfl,rfl,rfl,_,_,Sta.refl S 0⟩
 | n + 1 => by
   obtain ⟨h1,h2,h3,h4,h5,h6,m,q,h7⟩:=Qt S n;exact ⟨h1,h2,h3,h4,h5,by simp only [Lr,Aj];omega,_,_,h7.trans (Sta.em _ _ _ _ _ _ _) m (Nat.le_refl _) (Nat.zero_le _)⟩
theorem Z7 (S:Cd) (j:Nat):∀ n,j < n→(Lr S n).words.getD (S.words.length + j) 0#64=Bn (27:Nat) (1 + j) 14 0 0 (j:Nat)
 | 0,h=>by omega
 | n + 1, h => by
   have l:=(Qt S n).2.2.2.2.2.1;by_cases hj:j < n
   ·exact ((Ext.ei (Lr S n) 27 (1 + n) 14 0 0 (n:Nat)).pre _ (by rw [l];omega)).trans (Z7 S j n hj)
   ·have:j=n:=Aa;subst this;rw [← l];exact CD _ _
theorem So (S:Cd):∀ n,Ext S (Lr S n)
 | 0=>Ext.refl S
 | n + 1=>(So S n).trans (Ext.ei ..)
theorem He {at':BitVec 64→BitVec 64→BitVec 64→BitVec 64}:∀ (k:Nat) (x:Ex) (v:BitVec 64) (c:Nat),Sx at' k x v c→∃ L:Nat→Nat,∀ r S,(AO k x r S).words.length=S.words.length + L r∧(AO k x r S).bad=S.bad
 | 0,_,_,_,h=>by cases h
 | k + 1, _, _, _, .num _ v => by
   refine ⟨fun _=>if v.toInt=Bl v then 1 else 7,fun r S=>⟨?_,RZ S r v⟩⟩;show (H4 S r v).words.length=_;unfold H4;by_cases h:v.toInt=Bl v
   ·rw [if_pos h,if_pos h,Aj]
   ·rw [if_neg h,if_neg h];simp only [Aj]
 | k + 1, _, _, _, .call _ x y z u v q a b c hx hy hz => by
   obtain ⟨L1,h1⟩:=He k x u a hx;obtain ⟨L2,h2⟩:=He k y v b hy;obtain ⟨L3,h3⟩:=He k z q c hz;refine ⟨fun r=>L1 0 + 1 + (L2 0 + 1) + (L3 0 + 1) + if r=0 then 12 else 13,fun r S=>?_⟩;have e1:AO (k + 1) (.mk 29 1#64 [x,y,z]) r S=caF (Bp (CI (AO k z 0 (CI (AO k y 0 (CI (AO k x 0 S) 0)) 0)) 0) S.temps) S.temps 3 1 r:=rfl;have sv:∀ T r,(CI T r).words.length=T.words.length + 1∧(CI T r).bad=T.bad:=fun T r=>⟨Aj T 28 0 14 r 0 _,rfl⟩
   rw [e1];refine ⟨?_,?_⟩
   ·rw [G0,List.length_append,SM,show ∀ X t,(Bp X t).words=X.words from fun _ _=>rfl,(sv _ 0).1,(h3 0 _).1,(sv _ 0).1,(h2 0 _).1,(sv _ 0).1,(h1 0 S).1];dsimp only;omega
   ·have cb:∀ V t n r,(caF V t 3 n r).bad=V.bad:=fun V t n r=>by
     have:∀ X r,(caD X r).bad=X.bad:=fun X r=>by unfold caD;split <;> rfl
     unfold caF;rw [show ∀ (X:Cd) a b,(N0 X a b).bad=X.bad from fun _ _ _=>rfl,this,HG,HG];simp only [caG,caC,caB,A5,IW]
    rw [cb,show ∀ X t,(Bp X t).bad=X.bad from fun _ _=>rfl,(sv _ 0).2,(h3 0 _).2,(sv _ 0).2,(h2 0 _).2,(sv _ 0).2,(h1 0 S).2]
end Mv
