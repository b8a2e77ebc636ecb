/- A part. -/
import Derived.Test.YtgeionenpaopaaaGreatDoorBO
import Derived.Test.YtgeionenpaopaaaGreatDoorBP
set_option linter.all false
set_option maxRecDepth 20000
set_option maxHeartbeats 16000000
namespace Mv
open Go
variable {M:Seat}
def ZK (l:List (Nat × Nat)):V:=.fm l.length (fun j=>.int .i64 ((l.getD j (0,0)).1:Nat)) (fun j=>.int .i64 ((l.getD j (0,0)).2:Nat))
theorem Ji (l:List (Nat × Nat)):(ZK l).solid=true:=rfl
theorem Ju (l:List (Nat × Nat)):(ZK l).size=1:=rfl
theorem Jd (l:List (Nat × Nat)):(ZK l).isAgg=false:=rfl
theorem El (a:List Nat) (l:List (Nat × Nat)):(ZK l).ren a=ZK l:=rfl
theorem AI (H:Hp) (m z:List Nat) (l:List (Nat × Nat)):Aw H m z (ZK l) (ZK l)=True:=eq_true ⟨rfl,fun _ _=>⟨rfl,rfl⟩⟩
theorem Jj (H:Hp) (m z:List Nat) (l:List (BitVec 64)) (w:BitVec 64):Aw H m z (EN (l ++ [w])) (.ar 1 (l.length + 1) fun i=>if i < l.length then W (l.getD i 0#64) else if i - l.length=0 then W w else W 0#64)=True:=by
 refine eq_true ⟨⟨rfl,by simp⟩,fun i _=>?_⟩;simp only [VJ]
 repeat' split
 all_goals rfl
theorem Afd (l:List (BitVec 64)) (w:BitVec 64):(l ++ [w]).length=l.length + 1:=BF
def WT (o:Nat) (l:List (Nat × Nat)) (seen:Nat→Bool):V:=.tup (.fcons o (ZK l) (.ar 1 l.length fun i=>.bool (seen i)))
theorem Ac2 (a:List Nat) (o:Nat) (l:List (Nat × Nat)) (f:Nat→Bool):(WT o l f).ren a=WT o l f:=rfl
theorem SS (H:Hp) (m z:List Nat) (o:Nat) (l:List (Nat × Nat)) (f:Nat→Bool):Aw H m z (WT o l f) (WT o l f)=True:=eq_true ⟨rfl,⟨rfl,fun _ _=>⟨rfl,rfl⟩⟩,⟨rfl,rfl⟩,fun _ _=>rfl⟩
theorem VA (n:Nat) (l:List (Nat × Nat)) (H:Hp):Aln (ZK l) n H=⟨True,.ptr n [],(n,WT 0 l fun _=>false) :: H⟩:=rfl
theorem Ab4 (f:Nat→Bool) (i:Nat):(KP (fun j=>.bool (f j)) i)=fun j=>.bool (Fo f i j):=by funext j;unfold KP Fo;split <;> rfl
def Hh (w fr en bd st bk:Nat) (cs:List (Nat × Nat)) (S:Cd):V:=.st 12 (.fcons 0 (FC S.P) (.fcons 1 (.sl w [] 0 S.words.length 1) (.fcons 2 (.int .i64 S.base) (.fcons 3 (.int .i64 S.fn) (.fcons 4 (Ee fr S.frames.length) (.fcons 5 (Ee en S.entries.length) (.fcons 6 (ZK cs)
 (.fcons 7 (Ee bd S.bad.length) (.fcons 8 (Ee st S.steps.length) (.fcons 9 (Ee bk S.backs.length) (.fcons 10 (.int .i64 S.temps) (.fcons 11 (.int .i64 S.most) .fnil))))))))))))
theorem I4 (ok:OkCo M) (cs:List (Nat × Nat)) (S:Cd) (at' n:Nat) (h:at' < S.words.length) (hn:n < 1000000) :
 As M 407 [.ptr 0 [],.int .i64 at',.int .i64 n] [(0,Hh 1 2 3 5 6 7 cs S),(1,EN S.words)] 8
  (Q3 (.tup .fnil) [(0,Hh 1 2 3 5 6 7 cs (Ei S at' n)),(1,EN (Ei S at' n).words)] 8):=by
 have d0:(0≤(at':Int))=True:=eq_true Aa;have d1:((at':Int) < (S.words.length:Int))=True:=eq_true Aa;have wu:IntKind.u32.wrap (n:Int)=n:=by
  have e:IntKind.u32.wrap (n:Int)=(n:Int) % 4294967296:=Q0;rw [e];omega
 have hl:(Ei S at' n).words.length=S.words.length:=by simp [Ei]
 have hw:(Ei S at' n).words=S.words.set at' (S.words.getD at' 0#64 >>> 32 <<< 32 ||| BitVec.ofInt 64 n):=by simp only [Ei,O4,RY]
 simp only [Hh,EN,hl];rw [hw];refine Ac ok.k407 rfl fun x hx=>?_;refine eX ?_;simp only [Ad4,Ajk,Dk,Dl,Dj,DG,D0,DB,Ji,Ju,Jd,d0,d1,wu,LZ,seval];refine ⟨h,h,h,?_⟩;refine Ay.mkO hx [0,1,2,3,4,5,6,7] [] [0,1] _ _ _ (by simp only [AA,seval]) Ab (by (simp only [Dz,seval])) (by simp only [DK,seval]) ?_ ⟨rfl,rfl,rfl⟩;simp only [Ei,List.length_set,Ak,AI,LH,Ai,LY,seval];intro i _;rw [Af2 _ _ _ h]
 repeat' split
 all_goals rfl
theorem Q7 (ok:OkCo M) (cs:List (Nat × Nat)) (S:Cd) (at':Nat) (h:at' < S.words.length) (hm:S.words.length < 1000000) :
 As M 408 [.ptr 0 [],.int .i64 at'] [(0,Hh 1 2 3 5 6 7 cs S),(1,EN S.words)] 8
  (Q3 (.tup .fnil) [(0,Hh 1 2 3 5 6 7 cs (Ga S at')),(1,EN (Ga S at').words)] 8):=by
 have hP:=I4 ok cs S at' S.words.length h hm;unfold Ga;generalize Ei S at' S.words.length=T at *
 simp only [Hh] at hP ⊢;refine Ac ok.k408 rfl fun x hx=>?_;refine eX ?_;simp only [Abv,Ait,Dk,Dl,Dj,DG,D0,DB,Ji,Ju,Jd,LZ,seval];refine Ah [0,1,2,3,4,5,6,7] [0,1] [0,1] (hP) (by simp only [Ak,Ae,AI,AA,seval]) Ab (by ((try simp only [Ak,Ae,AI,LH,Ai,LY,seval]);first | done | exact True.intro | rfl)) (by ((try simp only [Ak,Ae,AI,LH,Ai,LY,seval]);first | done | exact True.intro | rfl)) ?_;simp only [Ad,El,Ae,LH,Ai,AW,seval];refine Ay.mkO hx [0,1,2,3,4,5,6,7] [] [0,1] _ _ _ (by simp only [Ak,Ae,AI,AA,seval]) Ab (by (simp only [Dz,Ak,Ae,AI,LH,Ai,seval])) (by ((try simp only [DK,Ak,Ae,AI,LH,Ai,seval]);first | done | exact True.intro | (intros;rfl))) (by ((try simp only [Ak,Ae,AI,LH,Ai,LY,seval]);first | done | exact True.intro | (intros;rfl))) ⟨rfl,rfl,rfl⟩
theorem PH (ok:OkCo M) (P:List Fu) (base n:Int) (h2:-2147483648≤n∧n < 2147483648) :
 As M 405 [.ptr 0 [],.int .i64 26,.int .i64 14,.int .i64 0,.int .i64 0,.int .i64 0,.int .i64 n]
  [(0,.st 12 (.fcons 0 (FC P) (.fcons 1 .nils (.fcons 2 (.int .i64 base) (.fcons 3 (.int .i64 0) (.fcons 4 .nils (.fcons 5 .nils (.fcons 6 (.map 1) (.fcons 7 .nils (.fcons 8 .nils (.fcons 9 .nils (.fcons 10 (.int .i64 0) (.fcons 11 (.int .i64 0) .fnil)))))))))))))] 2
  (Q3 (.int .i64 0) [(0,.st 12 (.fcons 0 (FC P) (.fcons 1 (.sl 2 [] 0 1 1) (.fcons 2 (.int .i64 base) (.fcons 3 (.int .i64 0) (.fcons 4 .nils (.fcons 5 .nils (.fcons 6 (.map 1) (.fcons 7 .nils (.fcons 8 .nils (.fcons 9 .nils (.fcons 10 (.int .i64 0) (.fcons 11 (.int .i64 0) .fnil))))))))))))),(2,EN [Bn 26 14 0 0 0 n])] 3):=by
 have hC:=Gr ok.i 26 14 0 0 0 n Ab Ab Ab Ab Ab h2;simp only [Int.natCast_zero] at hC;have e14:((14:Nat):Int)=14:=rfl;rw [e14] at hC;generalize Bn 26 14 0 0 0 n=w at *
 refine Ac ok.k405 rfl fun x hx=>?_;refine eX ?_;simp only [PA,YS,LZ,seval];refine Ap (hC) ?_;have z0:IntKind.i64.wrap 0=0:=rfl;simp only [EM,z0,Dk,Dl,Dj,seval];refine Ay.mk hx [0,1,322] [] (.int .i64 0) _ 3 Ab (by (simp only [Dz,seval])) (by simp only [DK,seval]) ?_ ⟨rfl,rfl,rfl⟩;simp only [Ak,EN,List.length_cons,List.length_nil,LY,seval];intro j hj;obtain rfl:j=0:=Aa;simp only [List.getD_cons_zero,if_true,LY,seval]
def Pi (cs:List (Nat × Nat)) (S:Cd):Hp:=(0,Hh 8 9 10 11 12 13 cs S) :: (8,EN S.words) :: D8 S.frames.length 9 (BO S.frames) (D8 S.entries.length 10 (BO S.entries) (D8 S.bad.length 11 (BO S.bad) []))
structure OkCd (M:Seat):Prop where
 fu:OkFu M
 k306:Ar M 306 Xu=true
theorem Gi {P:List Fu} {i:Nat} (h:i < P.length):(P.getD i MG).body=(P[i]).body:=by rw [List.getD_eq_getElem?_getD,List.getElem?_eq_getElem h];rfl
theorem IA (ok:OkCd M) (P:List Fu) (c:Nat→Nat) (hP:RgP P c) (base:Int) (hba:512≤base∧base < 1000000) :
 As M 306 [FC P,.int .i64 base] [] 0 (Q3 (.ptr 0 []) ((0,Hh 1 2 3 5 6 7 (CR P (BJ P base) P.length).calls (Bj P base)) :: (1,EN (Bj P base).words) :: D8 (Bj P base).frames.length 2 (BO (Bj P base).frames) []) 8):=by
 have w0:IntKind.i64.wrap (base - 512)=base - 512:=Pt;have h1:=PH ok.fu.co P base (base - 512) Aa;have hne:=hP.ne;have hlen:=hP.len;refine Ac ok.k306 rfl fun x hx=>?_;refine eX ?_;simp only [Xu,Ag0,Dk,Dl,Dj,w0,AW,seval];refine Ah [80,48] [80] [0] (h1) (by simp only [Ak,Ae,AA,seval]) Ab (by ((try simp only [Ak,Ae,LH,Ai,LY,seval]);first | done | exact True.intro | rfl)) (by ((try simp only [Ak,Ae,LH,Ai,LY,seval]);first | done | exact True.intro | rfl)) ?_;have hL:=BD P hne;have hsl:∀ H m z,Aw H m z (.lst 3 P.length (BW P)) (.lst 3 P.length (BW P))=True:=fun H m z=>by rw [← hL];exact eq_true (En H m z P)
 simp only [Ad,H7,Ae,AW,hL,seval];have hpar:∀ j,Db P j≤24:=fun j=>by
  by_cases hj:j < P.length
  ·have:=hP.par j hj;omega
  ·unfold Db;rw [List.getElem?_eq_none Aa];decide
 have hbo:∀ j,j < P.length→RB P j 16 (P.getD j MG).body (c j):=fun j hj=>by rw [Gi hj];exact hP.body j hj
 have hlo:∀ j,j < P.length→0≤Bi P j∧Bi P j≤24:=fun j hj=>by have:=hP.par j hj;omega
 have hsu:((List.range P.length).map c).sum=Be c P.length:=rfl;have hsum:=hP.sum;rw [hsu] at hsum;refine Au (σ:=Nat) (fun j=>j≤P.length) (fun j=>fr 72 [(5,.ptr 0 []),(21,.int .i64 P.length),(22,.int .i64 j)]) (fun j=>Vc (CR P (BJ P base) j)) (fun _=>14) (fun j=>P.length - j) 0 (Nat.zero_le _) ?_ ?_
 ·have q1:(BJ P base).words=[Bn 26 14 0 0 0 (base - 512)]:=rfl;have q2:(BJ P base).P=P∧(BJ P base).base=base∧(BJ P base).fn=0∧(BJ P base).frames=[]∧(BJ P base).entries=[]∧(BJ P base).calls=[]∧(BJ P base).bad=[]∧(BJ P base).steps=[]∧(BJ P base).backs=[]∧(BJ P base).temps=0∧(BJ P base).most=0:=⟨rfl,rfl,rfl,rfl,rfl,rfl,rfl,rfl,rfl,rfl,rfl⟩
  simp only [CR,Vc,Bz,q1,q2,hL,List.length_nil,List.length_cons,I1,SD,Nat.zero_add,Int.natCast_zero];refine Av.frO [80,1,2,3,48,5,6,7,160,9,10,11,12,13] [] [0,4,8] hx Bg Ab (by simp only [AA,seval]) ?_ ?_
  ·simp only [Int.natCast_zero,LH,Ai,LY,seval]
  ·simp only [hsl,Ae,LH,Ai,Ci,LB,Nat.not_lt_zero,false_implies,LY,seval];exact ⟨rfl,fun i hi=>absurd hi BF⟩
 intro j hj;have hI:=Ng P base c hbo hlo hsum j hj;have hw:=hI.wf;by_cases hin:j=P.length
 ·subst hin;have d2:((P.length:Int) < (P.length:Int))=False:=eq_false Aa;have hcod:Bj P base=IW (G1 (Dv (CR P (BJ P base) P.length) (CR P (BJ P base) P.length).calls (CR P (BJ P base) P.length).entries (fun _=>true) (CR P (BJ P base) P.length).calls.length) (Dv (CR P (BJ P base) P.length) (CR P (BJ P base) P.length).calls (CR P (BJ P base) P.length).entries (fun _=>true) (CR P (BJ P base) P.length).calls.length).bad (Dv (CR P (BJ P base) P.length) (CR P (BJ P base) P.length).calls (CR P (BJ P base) P.length).entries (fun _=>true) (CR P (BJ P base) P.length).calls.length).bad.length) 18446744073709551615#64:=rfl;generalize Bj P base=G at *
  generalize CR P (BJ P base) P.length=F at *
  refine F8.weak (fr 72 [(5,.ptr 0 []),(21,.int .i64 P.length),(22,.int .i64 P.length)]) ((0,Hh 8 9 10 11 12 13 F.calls F) :: (8,EN F.words) :: D8 F.frames.length 9 (BO F.frames) (D8 F.entries.length 10 (BO F.entries) (D8 F.bad.length 11 (BO F.bad) []))) 14 ?_ ?_
  ·refine Av.frO [0,1,2,3,999,5,6,7,8,9,10,11,12,13] [4] [0,8,9,10,11] hx Bg Ab (by simp only [AA,seval]) ?_ ?_
   ·simp only [LH,Ai,LY,seval]
   ·simp only [Vc,Hh,Bz,Ak,Ae,LH,Ai,Ci,LY,seval];exact ⟨rfl,rfl,fun _ _=>⟨rfl,rfl⟩⟩
  refine eX ?_;simp only [Hh];simp only [d2,VA,Ji,Ju,Jd,LZ,seval];refine Au (σ:=Nat × (Nat→Bool)) (fun _=>True) (fun _=>fr 72 [(5,.ptr 0 []),(33,.ptr 14 [])]) (fun s=>(14,WT s.1 F.calls s.2) :: Pi F.calls (Dv F F.calls F.entries s.2 F.calls.length)) (fun _=>15) (fun s=>DS s.2 F.calls.length) (0,fun _=>false) trivial ?_ ?_
  ·simp only [Pk,Pi,Hh];refine Av.frO [0,1,2,3,4,5,6,7,8,9,10,11,12,13,94] [] [0,8,9,10,11,14] hx Bg Ab (by simp only [AA,seval]) ?_ ?_
   ·simp only [LH,Ai,LY,seval]
   ·simp only [Ak,AI,SS,Ae,LH,Ai,Ci,LY,seval]
  rintro ⟨o,seen⟩ _;refine es 1 ?_;simp only [LZ,seval];refine Zo (id:=14) (o:=o) (m:=F.calls.length) (ks:=fun j=>.int .i64 ((F.calls.getD j (0,0)).1:Nat)) (vs:=fun j=>.int .i64 ((F.calls.getD j (0,0)).2:Nat)) (sz:=1) (L:=F.calls.length) (f:=fun i=>.bool (seen i)) (by simp only [LZ,seval]) rfl rfl (fun i hi hs=>?_) (fun hs=>?_)
  ·have hsi:seen i=false:=by cases h:seen i with | false=>rfl | true=>rw [h] at hs;exact absurd rfl hs
   have hit:itV (i + 1) F.calls.length (fun j=>.int .i64 ((F.calls.getD j (0,0)).1:Nat)) (fun j=>.int .i64 ((F.calls.getD j (0,0)).2:Nat)) 1 F.calls.length (KP (fun i=>.bool (seen i)) i)=WT (i + 1) F.calls (Fo seen i):=by
    unfold itV WT;rw [Ab4];rfl
   rw [hit];have hve:∀ H',Apa (.ptr 14 []) ((14,WT (i + 1) F.calls (Fo seen i)) :: H')=⟨Af ((14,WT (i + 1) F.calls (Fo seen i)) :: H') 14=true∧0 < i + 1∧i + 1≤F.calls.length,.tup (.fcons 0 (.int .i64 ((F.calls.getD i (0,0)).1:Nat)) (.fcons 1 (.int .i64 ((F.calls.getD i (0,0)).2:Nat)) .fnil)),(14,WT (i + 1) F.calls (Fo seen i)) :: H'⟩:=fun H'=>rfl;have hkm:F.calls.getD i (0,0) ∈ F.calls:=by rw [List.getD_eq_getElem?_getD,List.getElem?_eq_getElem hi];exact List.getElem_mem hi
   have hk1:=hw.ck _ hkm;have hk2:=hI.cq _ hkm;have hpa:=FW F F.calls F.entries seen F.calls.length;have hps:=SN F F.calls F.entries seen i hsi F.calls.length hi (fun q hq hqi=>Am3 hw.cs hq hi hqi);have hun:=JH seen i hsi F.calls.length hi;have hen:=hpa.2.2.2.2.1;have hwl:=hpa.2.2.2.2.2.2.2.2.2.2.2;have hen0:F.entries.length ≠ 0:=by rw [hI.en];intro h;exact hne (List.length_eq_zero_iff.1 h)
   have d3:(0≤(((F.calls.getD i (0,0)).2:Nat):Int))=True:=eq_true Aa;have d4:((((F.calls.getD i (0,0)).2:Nat):Int) < (F.entries.length:Int))=True:=eq_true (by rw [hI.en];omega);have hnl:BO F.entries = .ar 1 F.entries.length fun j=>.int .i64 (F.entries.getD j 0:Nat):=rfl;generalize Dv F F.calls F.entries seen F.calls.length=T at *
   simp only [Pi,Hh,nxV];simp only [LZ,seval];refine eX ?_;simp only [Ae0,hve,hen,AD hen0,CK hen0,hnl,LH,Ai,d3,d4,Ji,Ju,Jd,LZ,seval];refine ⟨by omega,by omega,by rw [hI.en];exact hk2,?_⟩;have hev:F.entries.getD (F.calls.getD i (0,0)).2 0 < 1000000:=by
    have h2:(F.calls.getD i (0,0)).2 < F.entries.length:=by rw [hI.en];exact hk2
    rw [List.getD_eq_getElem?_getD (l:=F.entries),List.getElem?_eq_getElem h2];have h3:=hI.ev _ (List.getElem_mem h2);have:=hI.wo;simp only [Option.getD_some];omega
   have hPt:=I4 ok.fu.co F.calls T (F.calls.getD i (0,0)).1 (F.entries.getD (F.calls.getD i (0,0)).2 0) Aa hev;simp only [Hh,LPt,hen] at hPt;refine Ah [0,8,9,10,4,11,12,13] [0,8] [0,1] (hPt) (by simp only [Ak,AI,Ae,AD hen0,AA,seval]) Ab (by ((try simp only [Ak,AI,Ae,AD hen0,LH,Ai,LY,seval]);first | done | exact True.intro | rfl)) (by ((try simp only [Ak,AI,Ae,AD hen0,LH,Ai,LY,seval]);first | done | exact True.intro | rfl)) ?_;simp only [Ad,El,Ac2,Ae,LH,Ai,AW,AD hen0,seval];refine ⟨(i + 1,Fo seen i),hun,?_⟩;dsimp only;rw [hps];simp only [LPt,hen,← hnl];refine Av.frO [0,1,2,3,4,5,6,7,8,9,10,11,12,13,14] [] [0,8,9,10,11,14] hx Bg Ab (by simp only [AA,seval]) ?_ ?_
   ·simp only [LH,Ai,LY,seval]
   ·simp only [Ak,AI,SS,AD hen0,CK hen0,Ae,LH,Ai,Ci,LY,seval]
  ·have hpa:=Aby F F.calls F.entries seen F.calls.length (fun i hi=>by have:=hs i hi;simpa using this);rw [hpa];have hpq:=FW F F.calls F.entries (fun _=>true) F.calls.length;have hAb:=hpq.2.2.2.2.2.2.1;have hAw:=hpq.2.2.2.2.2.2.2.2.2.2.2;have hAf:=hpq.2.2.2.1;generalize Dv F F.calls F.entries (fun _=>true) F.calls.length=A at *
   simp only [Pi,Hh];simp only [LZ,seval];refine eX ?_;simp only [ER,DG,D0,DB,LZ,seval];refine Au (σ:=Nat) (fun j=>j≤A.bad.length) (fun j=>fr 72 [(5,.ptr 0 []),(52,Ee 11 A.bad.length),(53,.int .i64 A.bad.length),(54,.int .i64 j)]) (fun j=>Pi F.calls (G1 A A.bad j)) (fun _=>14) (fun j=>A.bad.length - j) 0 (Nat.zero_le _) ?_ ?_
   ·simp only [G1,Pi,Hh];refine Av.frO [0,1,2,3,4,5,6,7,8,9,10,11,12,13] [] [0,8,9,10,11] hx Bg Ab (by simp only [AA,seval]) ?_ ?_
    ·simp only [Int.natCast_zero,LH,Ai,LY,seval]
    ·simp only [Ak,AI,Ae,LH,Ai,Ci,LY,seval]
   intro j hj;refine eX ?_;have hhe:=Ka A A.bad j;have hhb:=hhe.2.2.2.2.2.2.1;have hhw:=hhe.2.2.2.2.2.2.2.2.2.2.2;have hwo:=hI.wo;by_cases hin:j=A.bad.length
   ·subst hin;have d3:((A.bad.length:Int) < (A.bad.length:Int))=False:=eq_false Aa;generalize G1 A A.bad A.bad.length=B at *
    have hG1:G.P=B.P∧G.base=B.base∧G.fn=B.fn∧G.frames=B.frames∧G.entries=B.entries∧G.bad=B.bad∧G.steps=B.steps∧G.backs=B.backs∧G.temps=B.temps∧G.most=B.most:=by
     rw [hcod];exact ⟨rfl,rfl,rfl,rfl,rfl,rfl,rfl,rfl,rfl,rfl⟩
    have hG2:G.words=B.words ++ [18446744073709551615#64]:=by rw [hcod];rfl
    have hnl:EN B.words = .ar 1 B.words.length fun j=>W (B.words.getD j 0#64):=rfl;simp only [Pi,Hh,hnl];simp only [d3,LZ,seval];refine ⟨by omega,?_⟩;simp only [hG1,hG2,Afd,LH,Ai,CT];refine Ay.mkO hx [0,126,9,10,4,11,12,13] [] [0,1,2] _ _ _ (by simp only [Ak,AI,Jj,Ae,Ci,AA,seval]) Ab (by (simp only [Dz,Ak,AI,Jj,Ae,Ci,LH,Ai,seval])) (by ((try simp only [DK,Ak,AI,Jj,Ae,Ci,LH,Ai,seval]);first | done | exact True.intro | (intros;rfl))) (by ((try simp only [Ak,AI,Jj,Ae,Ci,LH,Ai,LY,seval]);first | done | exact True.intro | (intros;rfl))) ⟨rfl,rfl,rfl⟩
   ·have d3:((j:Int) < (A.bad.length:Int))=True:=eq_true Aa;have d4:(0≤(j:Int))=True:=eq_true Aa;have hlt:j < A.bad.length:=Aa;have hne2:A.bad.length ≠ 0:=Aa;have hnl:BO A.bad = .ar 1 A.bad.length fun j=>.int .i64 (A.bad.getD j 0:Nat):=rfl;have w2:IntKind.i64.wrap ((j:Int) + 1)=((j + 1:Nat):Int):=by have:=hw.bl;rw [hAb] at hj;rw [AR Aa];omega
    have hn1:G1 A A.bad (j + 1)=Ga (G1 A A.bad j) (A.bad.getD j 0):=rfl;have hat:A.bad.getD j 0 < A.words.length:=by
     rw [hAw,hAb];rw [hAb] at hlt;rw [List.getD_eq_getElem?_getD,List.getElem?_eq_getElem hlt];exact hw.bk _ (List.getElem_mem hlt)
    generalize G1 A A.bad j=T1 at *
    have h4:=Q7 ok.fu.co F.calls T1 (A.bad.getD j 0) Aa Aa;simp only [Pi,Hh,LHe,hhb] at h4 ⊢;simp only [d3,d4,AD hne2,CK hne2,hnl,LH,Ai,LZ,seval];refine ⟨hlt,?_⟩;refine Ah [0,8,9,10,4,11,12,13] [0,8] [0,1] (h4) (by simp only [Ak,AI,Ae,AD hne2,AA,seval]) Ab (by ((try simp only [Ak,AI,Ae,AD hne2,LH,Ai,LY,seval]);first | done | exact True.intro | rfl)) (by ((try simp only [Ak,AI,Ae,AD hne2,LH,Ai,LY,seval]);first | done | exact True.intro | rfl)) ?_;simp only [Ad,El,Ae,LH,Ai,AW,AD hne2,w2,seval];refine ⟨j + 1,by omega,by omega,?_⟩;rw [hn1];simp only [LHe,hhb,← hnl];refine Av.frO [0,1,2,3,4,5,6,7,8,9,10,11,12,13] [] [0,8,9,10,11] hx Bg Ab (by simp only [AA,seval]) ?_ ?_
    ·simp only [AD hne2,LH,Ai,LY,seval]
    ·simp only [AD hne2,CK hne2,Ak,AI,Ae,LH,Ai,Ci,LY,seval]
 ·refine eX ?_;have hlt:j < P.length:=Aa;have d2:((j:Int) < (P.length:Int))=True:=eq_true Aa;have w2:IntKind.i64.wrap ((j:Int) + 1)=((j + 1:Nat):Int):=B7;have hn1:CR P (BJ P base) (j + 1)=IY (CR P (BJ P base) j) j (Db P j).toNat (Bi P j).toNat (P.getD j MG).body:=rfl;have hp:=hP.par j hlt;have hsl:=DF c hlt;have hF:=Kx ok.fu P Aa hpar j (Db P j).toNat (Bi P j).toNat hlt Aa Aa Aa Aa (c j) (hP.body j hlt) (CR P (BJ P base) j) hI.eP hw (by have:=hI.wo;omega) Aa (by rw [hI.eb];omega) (by rw [hI.fr];omega) (by rw [hI.en];omega);rw [← Gi hlt,← hn1] at hF;generalize CR P (BJ P base) j=T at *
  simp only [Ajr,Vc,Bz] at hF ⊢;simp only [d2,LZ,seval];refine Ah [0,8,9,10,4,11,12,13] [0,8,4,9,10,11] [0,1,4,2,3,5] (hF) (by simp only [Ak,Ae,AA,seval]) Ab (by ((try simp only [Ak,Ae,LH,Ai,LY,seval]);first | done | exact True.intro | rfl)) (by ((try simp only [Ak,Ae,LH,Ai,LY,seval]);first | done | exact True.intro | rfl)) ?_;simp only [Ad,Ae,LH,Ai,AW,w2,seval];refine ⟨j + 1,by omega,by omega,?_⟩;refine Av.frO [0,1,2,3,4,5,6,7,94,95,96,97,98,99] [] [0,4,8,9,10,11] hx Bg Ab (by simp only [AA,seval]) ?_ ?_
  ·simp only [LH,Ai,LY,seval]
  ·simp only [Ak,Ae,LH,Ai,Ci,LY,seval]
end Mv
namespace Mv
open Go
def MO (f:Ex→List Nat→List Nat) (as:List Ex) (l:List Nat):Nat→List Nat
 | 0=>l
 | j + 1=>f (as.getD j Ch) (MO f as l j)
def KZ (op:Int) (n:BitVec 64) (l:List Nat):List Nat:=if op=29 then l ++ [n.toNat] else l
def Hg:Nat→Ex→List Nat→List Nat
 | 0,_,l=>l
 | k + 1,.mk op n as,l=>MO (Hg k) as (KZ op n l) as.length
def Je (bl:List IrSt→List Nat→List Nat):IrSt→List Nat→List Nat
 | .mk kind _ a b body els, l =>
   if kind=2 then Hg 8 b (Hg 8 a l)
   else if kind=3 then bl els (bl body (Hg 8 a l))
   else if kind=4 then bl body (Hg 8 a l)
   else Hg 8 a l
def SL (f:IrSt→List Nat→List Nat) (ss:List IrSt) (l:List Nat):Nat→List Nat
 | 0=>l
 | j + 1=>f (ss.getD j PD) (SL f ss l j)
def cbS:Nat→IrSt→List Nat→List Nat
 | 0=>Je fun _ l=>l
 | k + 1=>Je fun ss l=>SL (cbS k) ss l ss.length
def cbF (body:List IrSt):List Nat:=SL (cbS 15) body [] body.length
def Vz (mo l:List Nat):Nat→Nat
 | 0=>0
 | j + 1=>max (Vz mo l j) (mo.getD (l.getD j 0) 0)
def JY (P:List Fu) (fr:List Nat):Nat→List Nat
 | 0=>fr
 | k + 1=>(JY P fr k).set (P.length - 1 - k) ((JY P fr k).getD (P.length - 1 - k) 0 + Vz (JY P fr k) (cbF (P.getD (P.length - 1 - k) MG).body) (cbF (P.getD (P.length - 1 - k) MG).body).length)
def neS (P:List Fu) (fr:List Nat):Nat:=(JY P fr P.length).getD 0 0
structure Clq (K:Nat) (l m:List Nat) (c:Nat):Prop where
 len:m.length≤l.length + c
 lt:(∀ x ∈ l,x < K)→∀ x ∈ m,x < K
theorem Clq.refl (K:Nat) (l:List Nat) (c:Nat):Clq K l l c:=⟨by omega,fun h=>h⟩
theorem Clq.trans {K:Nat} {l m n:List Nat} {c d:Nat} (h:Clq K l m c) (g:Clq K m n d):Clq K l n (c + d):=⟨by have:=h.len;have:=g.len;omega,fun q=>g.lt (h.lt q)⟩
theorem Clq.mono {K:Nat} {l m:List Nat} {c d:Nat} (h:Clq K l m c) (hd:c≤d):Clq K l m d:=⟨by have:=h.len;omega,h.lt⟩
theorem FV (P:List Fu) (i:Nat):∀ (k:Nat) (x:Ex) (c:Nat),RE P i k x c→1≤c∧∀ l,Clq P.length l (Hg k x l) c
 | 0,_,_,h=>by cases h
 | k + 1, .mk op n as, _, .mk _ _ _ _ c hn hl ha => by
   refine ⟨by omega,fun l=>?_⟩;have es:((List.range as.length).map c).sum=Be c as.length:=rfl;rw [es];have h0:Clq P.length l (KZ op n l) 1:=by
    unfold KZ;split
    ·rename_i h29;have hlt:n.toNat < P.length:=by
      cases hn with
      | call n as h1 h2 h3=>exact h2
      | ar op n as h1 h2 h3=>omega
      | con n=>exact absurd h29 Ab
      | loc n h1 h2=>exact absurd h29 Ab
      | load n a=>exact absurd h29 Ab
      | hash n a b=>exact absurd h29 Ab
      | pre n a b=>exact absurd h29 Ab
     refine ⟨by simp,fun h x hx=>?_⟩;rcases List.mem_append.1 hx with hx | hx
     ·exact h x hx
     ·simp at hx;omega
    ·exact Clq.refl _ _ _
   have hA:∀ j,j≤as.length→Clq P.length l (MO (Hg k) as (KZ op n l) j) (1 + Be c j):=fun j=>by
    induction j with
    | zero=>intro _;exact h0.mono Aa
    | succ j ih =>
      intro h;have e:=C8 c j;have hj:j < as.length:=h;have g:=(FV P i k as[j] (c j) (ha j hj)).2 (MO (Hg k) as (KZ op n l) j);rw [show as[j]=as.getD j Ch by rw [List.getD_eq_getElem?_getD,List.getElem?_eq_getElem hj];rfl] at g;exact ((ih Aa).trans g).mono Aa
   exact hA as.length (Nat.le_refl _)
theorem OO {K:Nat} {f:IrSt→List Nat→List Nat} {ss:List IrSt} {c:Nat→Nat} (hf:∀ j,j < ss.length→∀ l,Clq K l (f (ss.getD j PD) l) (c j)) (l:List Nat):∀ j,j≤ss.length→Clq K l (SL f ss l j) (Be c j)
 | 0,_=>Clq.refl _ _ _
 | j + 1, h => by
   have e:=C8 c j;exact ((OO hf l j Aa).trans (hf j Aa _)).mono Aa
theorem Y5 (P:List Fu) (i l:Nat) (bl:List IrSt→List Nat→List Nat) (hbl:∀ ss c,RB P i l ss c→∀ L,Clq P.length L (bl ss L) c):∀ (s:IrSt) (c:Nat),RgS P i l s c→∀ L,Clq P.length L (Je bl s L) c:=by
 intro s c h L;cases h with
 | set _ n a b bo el ca h0 h1 ha =>
   simp only [Je,show ((1:Int)=2)=False by decide,show ((1:Int)=3)=False by decide,show ((1:Int)=4)=False by decide,if_false];exact ((FV P i 8 a ca ha).2 L).mono Aa
 | store _ n a b bo el ca cb ha hb =>
   simp only [Je,if_true];exact (((FV P i 8 a ca ha).2 L).trans ((FV P i 8 b cb hb).2 _)).mono Aa
 | branch _ n a b bo el ca cb ce ha hb he =>
   simp only [Je,show ((3:Int)=2)=False by decide,Dh];exact ((((FV P i 8 a ca ha).2 L).trans (hbl bo cb hb _)).trans (hbl el ce he _)).mono Aa
 | loop _ n a b bo el ca cb ha hb =>
   simp only [Je,show ((4:Int)=2)=False by decide,show ((4:Int)=3)=False by decide,Dh];exact (((FV P i 8 a ca ha).2 L).trans (hbl bo cb hb _)).mono Aa
 | other _ k n a b bo el ca h5 h7 ha =>
   simp only [Je];rw [if_neg Aa,if_neg Aa,if_neg Aa];exact ((FV P i 8 a ca ha).2 L).mono Aa
theorem VI (P:List Fu) (i:Nat):∀ (k:Nat) (s:IrSt) (c:Nat),RgS P i k s c→∀ l,Clq P.length l (cbS k s l) c
 | 0=>Y5 P i 0 _ fun ss c h L=>Clq.refl _ _ _
 | k + 1 => Y5 P i (k + 1) _ fun ss c h L => by
   cases h with
   | mk _ _ c hl h =>
     exact OO (c:=c) (fun j hj l=>by
      rw [List.getD_eq_getElem?_getD,List.getElem?_eq_getElem hj]
      exact VI P i k ss[j] (c j) (h j hj) l) L ss.length (Nat.le_refl _)
theorem Apc (P:List Fu) (i:Nat) (body:List IrSt) (c:Nat) (h:RB P i 16 body c):Clq P.length [] (cbF body) c:=by
 cases h with
 | mk _ _ c hl h =>
   exact OO (c:=c) (fun j hj l=>by
    rw [List.getD_eq_getElem?_getD,List.getElem?_eq_getElem hj]
    exact VI P i 15 body[j] (c j) (h j hj) l) [] body.length (Nat.le_refl _)
theorem Ru (mo l:List Nat) (B:Nat) (hm:∀ x ∈ mo,x≤B):∀ j,Vz mo l j≤B
 | 0=>Nat.zero_le _
 | j + 1 => by
   have h:=Ru mo l B hm j;have h2:mo.getD (l.getD j 0) 0≤B:=by
    rw [List.getD_eq_getElem?_getD];cases he:mo[l.getD j 0]? with
    | none=>exact Nat.zero_le _
    | some x=>exact hm x (List.mem_of_getElem? he)
   simp only [Vz];omega
theorem RQ (P:List Fu) (fr:List Nat):∀ k,(JY P fr k).length=fr.length
 | 0=>rfl
 | k + 1=>by simp only [JY,List.length_set];exact RQ P fr k
theorem Yj (P:List Fu) (fr:List Nat):∀ k,k≤P.length→∀ i,i + k < P.length→(JY P fr k).getD i 0=fr.getD i 0
 | 0,_,i,_=>rfl
 | k + 1, h, i, hi => by
   have ih:=Yj P fr k Aa i Aa;simp only [JY,List.getD_eq_getElem?_getD,List.getElem?_set] at ih ⊢;rw [if_neg Aa];exact ih
theorem Rt (P:List Fu) (fr:List Nat) (F:Nat) (hF:∀ x ∈ fr,x≤F):∀ k,k≤P.length→∀ x ∈ JY P fr k,x≤(k + 1) * F
 | 0,_,x,hx=>by rw [Nat.zero_add,Nat.one_mul];exact hF x hx
 | k + 1, h, x, hx => by
   have ih:=Rt P fr F hF k Aa;have e:(k + 1 + 1) * F=(k + 1) * F + F:=by rw [Nat.succ_mul (k + 1)]
   rw [e];simp only [JY] at hx;rcases List.mem_or_eq_of_mem_set hx with hx | rfl
   ·have:=ih x hx;omega
   ·have h1:=Ru (JY P fr k) (cbF (P.getD (P.length - 1 - k) MG).body) ((k + 1) * F) ih (cbF (P.getD (P.length - 1 - k) MG).body).length;have h2:(JY P fr k).getD (P.length - 1 - k) 0≤F:=by
     rw [Yj P fr k Aa _ Aa,List.getD_eq_getElem?_getD];cases he:fr[P.length - 1 - k]? with
     | none=>exact Nat.zero_le _
     | some x=>exact hF x (List.mem_of_getElem? he)
    omega
end Mv
