/- A part. -/
import Derived.Test.YtgeionenpaopaaaGreatDoorBM
import Derived.Test.YtgeionenpaopaaaGreatDoorBN
set_option linter.all false
set_option maxRecDepth 20000
set_option maxHeartbeats 16000000
namespace Mv
open Go
variable {M:Seat}
theorem LA (ok:OkCo M) (P:List Fu) (i:Nat) (hP:P.length < 1000) (hpar:∀ j,Db P j≤24):∀ (k:Nat) (s:IrSt) (c:Nat),RgS P i k s c→StC M P i (P6 k) s c
 | 0 => Kw ok P i 0 hP hpar (fun _ S => S) fun ss c h => by
   cases h with
   | nil =>
     refine ⟨?_,fun S=>Sta.refl S _⟩;have:=FN ok P i (fun _ S=>S) [] (fun _=>0) BF (fun j hj=>absurd hj BF) (fun j hj=>absurd hj BF);exact this
 | k + 1 => Kw ok P i (k + 1) hP hpar (fun ss S => Ll (P6 k) ss S ss.length) fun ss c h => by
   cases h with
   | mk _ _ c hl h =>
     have hs:∀ j,j < ss.length→∀ S,Sta S (P6 k (ss.getD j PD) S) 0 (S.temps + c j) (24 * c j):=fun j hj S=>by
      rw [List.getD_eq_getElem?_getD,List.getElem?_eq_getElem hj];exact HF P i k ss[j] (c j) (h j hj) S
     exact ⟨FN ok P i (P6 k) ss c Aa hs fun j hj=>by
      rw [List.getD_eq_getElem?_getD,List.getElem?_eq_getElem hj]
      exact LA ok P i hP hpar k ss[j] (c j) (h j hj),fun S=>Gk hs S ss.length (Nat.le_refl _)⟩
theorem QS (ok:OkCo M) (P:List Fu) (i:Nat) (hP:P.length < 1000) (hpar:∀ j,Db P j≤24) (ss:List IrSt) (c:Nat) (h:RB P i 16 ss c):BlC M P i (fun ss S=>Ll (P6 15) ss S ss.length) ss c:=by
 cases h with
 | mk _ _ c hl h =>
   have hs:∀ j,j < ss.length→∀ S,Sta S (P6 15 (ss.getD j PD) S) 0 (S.temps + c j) (24 * c j):=fun j hj S=>by
    rw [List.getD_eq_getElem?_getD,List.getElem?_eq_getElem hj];exact HF P i 15 ss[j] (c j) (h j hj) S
   exact FN ok P i (P6 15) ss c Aa hs fun j hj=>by
    rw [List.getD_eq_getElem?_getD,List.getElem?_eq_getElem hj];exact LA ok P i hP hpar 15 ss[j] (c j) (h j hj)
def Ajr (S:Cd):Hp:=(0,Bz 1 2 3 5 6 7 S) :: (1,EN S.words) :: (4,LB S.calls) :: D8 S.frames.length 2 (BO S.frames) (D8 S.entries.length 3 (BO S.entries) (D8 S.bad.length 5 (BO S.bad) []))
def Vc (S:Cd):Hp:=(0,Bz 8 9 10 11 12 13 S) :: (8,EN S.words) :: (4,LB S.calls) :: D8 S.frames.length 9 (BO S.frames) (D8 S.entries.length 10 (BO S.entries) (D8 S.bad.length 11 (BO S.bad) []))
def Ad5 (S:Cd):Hp:=(0,Bz 8 2 10 5 6 7 S) :: (8,EN S.words) :: (4,LB S.calls) :: D8 S.frames.length 2 (BO S.frames) (D8 S.entries.length 10 (BO S.entries) (D8 S.bad.length 5 (BO S.bad) []))
def Ab8 (S:Cd):Hp:=(0,Bz 8 2 10 9 11 13 S) :: (8,EN S.words) :: (4,LB S.calls) :: D8 S.frames.length 2 (BO S.frames) (D8 S.entries.length 10 (BO S.entries) (D8 S.bad.length 9 (BO S.bad) (D8 S.steps.length 11 (BO S.steps) (D8 S.backs.length 13 (BO S.backs) []))))
def Ov (S:Cd):Hp:=(0,Bz 8 9 10 11 12 13 S) :: (8,EN S.words) :: (4,LB S.calls) :: D8 S.frames.length 9 (BO S.frames) (D8 S.entries.length 10 (BO S.entries) (D8 S.bad.length 11 (BO S.bad) (D8 S.steps.length 12 (BO S.steps) [])))
structure OkFu (M:Seat):Prop where
 co:OkCo M
 k406:Ar M 406 XE=true
theorem Kx (ok:OkFu M) (P:List Fu) (hP:P.length < 1000) (hpar:∀ j,Db P j≤24) (i pc lc:Nat) (hi:i < P.length) (hpc:Db P i=pc) (hlc:Bi P i=lc) (hpl:pc≤lc) (hl24:lc≤24) (c:Nat) (hB:RB P i 16 (P[i]).body c)
 (S:Cd) (hSP:S.P=P) (hw:WFw S) (hwo:S.words.length + 24 * c + 40 < 700000) (hc:c < 700000) (hba:0≤S.base∧S.base < 1000000) (hfr:S.frames.length < 1000) (hen:S.entries.length < 1000) :
 As M 406 [.ptr 0 [],.int .i64 i] (Ajr S) 8 (Q3 (.tup .fnil) (Vc (IY S i pc lc (P[i]).body)) 14):=by
 have hne:P ≠ []:=by rintro rfl;exact absurd hi BF
 have hfi:=Ft hi;rw [hpc,hlc] at hfi;have hL:=BD P hne;have d0:(0≤(i:Int))=True:=eq_true Aa;have d1:((i:Int) < (P.length:Int))=True:=eq_true Aa;generalize (P[i]).body=body at *
 have hE0:Bd P i (Dt S i) (c + 1):=⟨hSP,rfl,hi,by rw [hlc];omega,hba,FH hw i,by show S.words.length + _ < _;omega,by show 0 + _ < _;omega⟩
 have hsl:∀ H m z,Aw H m z (.lst 3 P.length (BW P)) (.lst 3 P.length (BW P))=True:=fun H m z=>by rw [← hL];exact eq_true (En H m z P)
 have h1:=Aq ok.co (Dt S i) (by show S.words.length < _;omega) 28 0 14 15 0 lc Ab Ab Ab Ab Ab Aa;have hw0:(Dt S i).words=S.words:=rfl;have he0:(Dt S i).entries=S.entries ++ [S.words.length]:=rfl;have hx0:(Dt S i).P=P∧(Dt S i).base=S.base∧(Dt S i).fn=i∧(Dt S i).frames=S.frames∧(Dt S i).calls=S.calls∧(Dt S i).bad=S.bad∧(Dt S i).steps=[]∧(Dt S i).backs=[]∧(Dt S i).temps=0∧(Dt S i).most=0:=⟨hSP,rfl,rfl,rfl,rfl,rfl,rfl,rfl,rfl,rfl⟩
 simp only [Ajr,Vc,Bz,Int.natCast_zero,hSP,hL,Ed,hw0,he0,hx0,Ci,List.length_nil,I1] at h1 ⊢;refine Ac ok.k406 rfl fun x hx=>?_;refine eX ?_;simp only [XE,Alm,d0,d1,hfi,A8,A7,A6,LH,Ai,Xa,Cp,CM,LZ,seval];refine ⟨by omega,?_⟩;refine Ah [0,1,2,888,4,5,6,7] [0,1] [0,1] (h1) (by simp only [hsl,Ae,AA,seval]) Ab (by ((try simp only [hsl,Ae,LH,Ai,LY,seval]);first | done | exact True.intro | rfl)) (by ((try simp only [hsl,Ae,LH,Ai,LY,seval]);first | done | exact True.intro | rfl)) ?_;have hr1:∀ a,(V.lst 3 P.length (BW P)).ren a = .lst 3 P.length (BW P):=fun a=>by rw [← hL];exact Ad a P
 simp only [hr1,Ae,LH,Ai,AW,seval];have hbx:∀ H m z,Aw H m z (V.st 3 (.fcons 0 (.int .i64 pc) (.fcons 1 (.int .i64 lc) (.fcons 2 (DZ body) .fnil)))) (V.st 3 (.fcons 0 (.int .i64 pc) (.fcons 1 (.int .i64 lc) (.fcons 2 (DZ body) .fnil))))=True:=fun H m z=>by simp only [Dr,LY,seval]
 generalize hbb:V.st 3 (.fcons 0 (.int .i64 pc) (.fcons 1 (.int .i64 lc) (.fcons 2 (DZ body) .fnil)))=bx at *
 refine Au (σ:=Nat) (fun j=>j≤lc - pc) (fun j=>fr 124 [(0,.ptr 0 []),(1,.int .i64 i),(4,.ptr 12 []),(5,.int .i64 (pc + j:Nat))])
  (fun j=>(12,bx) :: Ad5 (GA (A5 (Dt S i) 28 0 14 15 0 lc) pc j)) (fun _=>13) (fun j=>lc - pc - j) 0 (Nat.zero_le _) ?_ ?_
 ·simp only [GA,Ad5,Bz,Ed,he0,hx0,hw0,hL,Ci,List.length_nil,I1];refine Av.frO [0,1,2,3,4,5,6,7,1016,9,888,11,120] [] [0,2,4,5,8,10,12] hx Bg Ab (by simp only [AA,seval]) ?_ ?_
  ·simp only [Nat.add_zero,LH,Ai,LY,seval]
  ·simp only [hsl,hbx,Ae,LH,Ai,Ci,LY,seval]
 intro j hj;refine eX ?_;have hlo:=Rq (A5 (Dt S i) 28 0 14 15 0 lc) pc j;have hl1:(A5 (Dt S i) 28 0 14 15 0 lc).words.length=S.words.length + 1:=Aj _ _ _ _ _ _ _;by_cases hin:j=lc - pc
 ·subst hin;have d2:(((pc + (lc - pc):Nat):Int) < (lc:Int))=False:=eq_false Aa;have hA:=Sl P S i pc lc body c hB hl24;have hBl:=QS ok.co P i hP hpar body c hB;have hlS:=(Sta.em (Dt S i) 28 0 14 15 0 lc).trans (Nj (A5 (Dt S i) 28 0 14 15 0 lc) pc (lc - pc)) 0 Aa Aa;have hBl:=hBl (GA (A5 (Dt S i) 28 0 14 15 0 lc) pc (lc - pc)) ⟨hlS.P.trans hSP,hlS.fn,hi,by rw [hlc];omega,by rw [hlS.base];exact hba,hlS.wf (FH hw i),by have:=hlo.2.2.2.2.2.2.2.2.2.2.2;omega,by have:=hlS.temps;have e:(Dt S i).temps=0:=rfl;omega⟩;dsimp only at hBl;have hBS:Sta (GA (A5 (Dt S i) 28 0 14 15 0 lc) pc (lc - pc)) (Ll (P6 15) body (GA (A5 (Dt S i) 28 0 14 15 0 lc) pc (lc - pc)) body.length) 0 c (24 * c):=Yi P i body c hB _ (by have:=hlS.temps;have e:(Dt S i).temps=0:=rfl;omega);have hfA:IT S i pc lc body=A5 (Ll (P6 15) body (GA (A5 (Dt S i) 28 0 14 15 0 lc) pc (lc - pc)) body.length) 26 0 0 0 0 0:=rfl;have hsb:(GA (A5 (Dt S i) 28 0 14 15 0 lc) pc (lc - pc)).steps=[]∧(GA (A5 (Dt S i) 28 0 14 15 0 lc) pc (lc - pc)).backs=[]:=⟨hlo.2.2.2.2.2.2.2.1,hlo.2.2.2.2.2.2.2.2.1⟩
  have hTw:=hlo.2.2.2.2.2.2.2.2.2.2.2;have hTf:(GA (A5 (Dt S i) 28 0 14 15 0 lc) pc (lc - pc)).frames=S.frames:=hlo.2.2.2.1;generalize GA (A5 (Dt S i) 28 0 14 15 0 lc) pc (lc - pc)=T at *
  have hVf:=hBS.frames;have hVe:=hBS.entries;have hVw:=hBS.words;generalize Ll (P6 15) body T body.length=V at *
  have h3:=Aq ok.co V Aa 26 0 0 0 0 0 Ab Ab Ab Ab Ab Ab;rw [← hfA] at h3;have hA1:(IT S i pc lc body).P=V.P∧(IT S i pc lc body).base=V.base∧(IT S i pc lc body).fn=V.fn∧(IT S i pc lc body).frames=T.frames∧(IT S i pc lc body).entries=T.entries∧(IT S i pc lc body).calls=V.calls∧(IT S i pc lc body).bad=V.bad∧(IT S i pc lc body).steps=V.steps∧(IT S i pc lc body).backs=V.backs∧(IT S i pc lc body).temps=V.temps∧(IT S i pc lc body).most=V.most∧(IT S i pc lc body).words.length=V.words.length + 1:=by
   rw [hfA];exact ⟨rfl,rfl,rfl,hVf,hVe,rfl,rfl,rfl,rfl,rfl,rfl,Aj _ _ _ _ _ _ _⟩
  have hfB:GB S i pc lc body=BZ (G1 (IT S i pc lc body) (IT S i pc lc body).backs (IT S i pc lc body).backs.length) i lc:=rfl;generalize IT S i pc lc body=A at *
  simp only [IP,GO,Ad5,Bz,Int.natCast_zero,hsb,List.length_nil,I1,SD,hVf,hVe] at hBl h3 ⊢;simp only [d2,← hbb,A8,A7,A6,LZ,seval];refine Ah [0,8,2,10,4,5,6,7] [0,8,4,5] [0,1,4,5] (hBl) (by simp only [Ak,B9,Dr,Ae,AA,seval]) Ab (by ((try simp only [Ak,B9,Dr,Ae,LH,Ai,LY,seval]);first | done | exact True.intro | rfl)) (by ((try simp only [Ak,B9,Dr,Ae,LH,Ai,LY,seval]);first | done | exact True.intro | rfl)) ?_;simp only [Ad,Ae,LH,Ai,AW,seval];refine Ah [0,125,2,10,4,126,127,128] [0,125] [0,1] (h3) (by simp only [Ak,Ae,AA,seval]) Ab (by ((try simp only [Ak,Ae,LH,Ai,LY,seval]);first | done | exact True.intro | rfl)) (by ((try simp only [Ak,Ae,LH,Ai,LY,seval]);first | done | exact True.intro | rfl)) ?_;simp only [Ad,Ae,LH,Ai,AW,ER,seval];have qc:A.calls=V.calls:=hA1.2.2.2.2.2.1;have qb:A.bad=V.bad:=hA1.2.2.2.2.2.2.1;have qs:A.steps=V.steps:=hA1.2.2.2.2.2.2.2.1;have qk:A.backs=V.backs:=hA1.2.2.2.2.2.2.2.2.1;have qf:A.frames=T.frames:=hA1.2.2.2.1;have qe:A.entries=T.entries:=hA1.2.2.2.2.1;have qw:=hA1.2.2.2.2.2.2.2.2.2.2.2;simp only [← qc,← qb,← qs,← qk,← qf,← qe,hbb];have hwA:=hA.wf (FH hw i);clear hBl h3;refine Au (σ:=Nat) (fun j=>j≤A.backs.length) (fun j=>fr 124 [(0,.ptr 0 []),(1,.int .i64 i),(4,.ptr 12 []),(72,Ee 13 A.backs.length),(73,.int .i64 A.backs.length),(74,.int .i64 j)])
   (fun j=>(12,bx) :: Ab8 (G1 A A.backs j)) (fun _=>14) (fun j=>A.backs.length - j) 0 (Nat.zero_le _) ?_ ?_
  ·simp only [G1,Ab8,Bz];refine Av.frO [0,1,2,3,4,5,6,7,157,126,10,127,12,128] [] [0,2,4,8,9,10,11,12,13] hx Bg Ab (by simp only [AA,seval]) ?_ ?_
   ·simp only [Int.natCast_zero,LH,Ai,LY,seval]
   ·simp only [Ak,hbx,Ae,LH,Ai,Ci,LY,seval]
  intro j hj;refine eX ?_;have hhe:=Ka A A.backs j;have hhb:=hhe.2.2.2.2.2.2.2.2.1;have hhw:=hhe.2.2.2.2.2.2.2.2.2.2.2;by_cases hin:j=A.backs.length
  ·subst hin;have d2:((A.backs.length:Int) < (A.backs.length:Int))=False:=eq_false Aa;have hfS:IY S i pc lc body=Fw (FA (GB S i pc lc body) (lc + 1 + (GB S i pc lc body).most)) (lc + 1 + (GB S i pc lc body).most) (GB S i pc lc body).steps (GB S i pc lc body).steps.length:=rfl;have hBs:=Nv P S i pc lc body c hB hl24;rw [hfS];generalize GB S i pc lc body=F at *
   have hhf:(G1 A A.backs A.backs.length).frames=A.frames:=hhe.2.2.2.1;have hhn:(G1 A A.backs A.backs.length).entries=A.entries:=hhe.2.2.2.2.1;generalize G1 A A.backs A.backs.length=E at *
   simp only [Ab8,Bz];by_cases hi0:i=0
   ·have e0:((i:Int)=0)=True:=eq_true Aa;have h4:=Aq ok.co E Aa 0 0 0 0 0 0 Ab Ab Ab Ab Ab Ab;rw [BZ,if_pos hi0] at hfB;rw [← hfB] at h4;have hF1:F.P=E.P∧F.base=E.base∧F.fn=E.fn∧F.frames=E.frames∧F.entries=E.entries∧F.calls=E.calls∧F.bad=E.bad∧F.steps=E.steps∧F.backs=E.backs∧F.temps=E.temps∧F.most=E.most:=by
     rw [hfB];exact ⟨rfl,rfl,rfl,rfl,rfl,rfl,rfl,rfl,rfl,rfl,rfl⟩
    have w5:IntKind.i64.wrap (IntKind.i64.wrap ((lc:Int) + 1) + (E.most:Int))=((lc + 1 + F.most:Nat):Int):=by
     have h1:=hBs.most;have h2:(Dt S i).most=0:=rfl;have h3:F.most=E.most:=hF1.2.2.2.2.2.2.2.2.2.2;rw [AR (n:=(lc:Int) + 1) Aa,AR Aa];omega
    have hFw:F.words.length≤E.words.length + 2:=by rw [hfB,Aj];omega
    generalize hnn:lc + 1 + F.most=n at *
    have hnb:n < 1000000:=by
     have h1:=hBs.most;have h2:(Dt S i).most=0:=rfl;omega
    simp only [Bz,Int.natCast_zero,hF1] at h4;simp only [d2,e0,LZ,seval];refine Ah [0,8,2,10,4,9,11,13] [0,8] [0,1] (h4) (by simp only [Ak,Ae,AA,seval]) Ab (by ((try simp only [Ak,Ae,LH,Ai,LY,seval]);first | done | exact True.intro | rfl)) (by ((try simp only [Ak,Ae,LH,Ai,LY,seval]);first | done | exact True.intro | rfl)) ?_;simp only [Ad,Ae,LH,Ai,Xa,Cp,CM,AW,← hbb,A8,A7,A6,w5,ER,seval];have hfl:E.frames.length < 1000:=by
     rw [hhf,qf,hTf];exact hfr
    refine ⟨by omega,?_⟩;refine Au (σ:=Nat) (fun j=>j≤F.steps.length) (fun j=>fr 124 [(0,.ptr 0 []),(8,.int .i64 n),(113,Ee 12 F.steps.length),(114,.int .i64 F.steps.length),(115,.int .i64 j)])
     (fun j=>Ov (Fw (FA F n) n F.steps j)) (fun _=>14) (fun j=>F.steps.length - j) 0 (Nat.zero_le _) ?_ ?_
    ·simp only [Fw,Ov,Bz,LFr,hF1,Ci];refine Av.frO [0,1,2,3,4,5,6,7,78,494,10,9,11,13] [] [0,4,8,9,10,11,12] hx Bg Ab (by simp only [AA,seval]) ?_ ?_
     ·simp only [Int.natCast_zero,LH,Ai,LY,seval]
     ·simp only [Ak,Ae,LH,Ai,Ci,LY,seval]
    have hwF:=hBs.wf (FH hw i);clear hF1 hfB h4;intro j hj;refine eX ?_;have hpt:=Fq (FA F n) n F.steps j;have hps:(Fw (FA F n) n F.steps j).steps=F.steps:=hpt.2.2.2.2.2.2.2.1;have hpw:(Fw (FA F n) n F.steps j).words.length=F.words.length:=hpt.2.2.2.2.2.2.2.2.2.2.2;by_cases hin:j=F.steps.length
    ·subst hin;have d3:((F.steps.length:Int) < (F.steps.length:Int))=False:=eq_false Aa;generalize Fw (FA F n) n F.steps F.steps.length=G at *
     simp only [Ov,Bz];simp only [d3,LZ,seval];refine Ay.mkO hx [0,1,2,3,4,5,6,7,8,9,10,11,12,13] [] [0,4,8,9,10,11] _ _ _ (by simp only [Ak,Ae,AA,seval]) Ab (by (simp only [Dz,Ak,Ae,LH,Ai,seval])) (by ((try simp only [DK,Ak,Ae,LH,Ai,seval]);first | done | exact True.intro | (intros;rfl))) (by ((try simp only [Ak,Ae,LH,Ai,LY,seval]);first | done | exact True.intro | (intros;rfl))) ⟨rfl,rfl,rfl⟩
    ·have d3:((j:Int) < (F.steps.length:Int))=True:=eq_true Aa;have d4:(0≤(j:Int))=True:=eq_true Aa;have hlt:j < F.steps.length:=Aa;have hne2:F.steps.length ≠ 0:=Aa;have hnl:BO F.steps = .ar 1 F.steps.length fun j=>.int .i64 (F.steps.getD j 0:Nat):=rfl;have w2:IntKind.i64.wrap ((j:Int) + 1)=((j + 1:Nat):Int):=by have:=hwF.sl;rw [AR Aa];omega
     have hn1:Fw (FA F n) n F.steps (j + 1)=Ei (Fw (FA F n) n F.steps j) (F.steps.getD j 0) n:=rfl;have hat:F.steps.getD j 0 < F.words.length:=by
      rw [List.getD_eq_getElem?_getD,List.getElem?_eq_getElem hlt];exact hwF.sk _ (List.getElem_mem hlt)
     generalize Fw (FA F n) n F.steps j=T1 at *
     have h4:=FX ok.co T1 (F.steps.getD j 0) n Aa Aa Aa;simp only [Ov,Bz,LPt,hps] at h4 ⊢;simp only [d3,d4,AD hne2,CK hne2,hnl,LH,Ai,LZ,seval];refine ⟨hlt,?_⟩;refine Ah [0,8,9,10,4,11,12,13] [0,8] [0,1] (h4) (by simp only [Ak,Ae,AD hne2,AA,seval]) Ab (by ((try simp only [Ak,Ae,AD hne2,LH,Ai,LY,seval]);first | done | exact True.intro | rfl)) (by ((try simp only [Ak,Ae,AD hne2,LH,Ai,LY,seval]);first | done | exact True.intro | rfl)) ?_;simp only [Ad,Ae,LH,Ai,AW,AD hne2,w2,seval];refine ⟨j + 1,by omega,by omega,?_⟩;rw [hn1];simp only [LPt,hps,← hnl];refine Av.frO [0,1,2,3,4,5,6,7,8,9,10,11,12,13] [] [0,4,8,9,10,11,12] hx Bg Ab (by simp only [AA,seval]) ?_ ?_
     ·simp only [AD hne2,LH,Ai,LY,seval]
     ·simp only [AD hne2,CK hne2,Ak,Ae,LH,Ai,Ci,LY,seval]
   ·have e0:((i:Int)=0)=False:=eq_false Aa;have h4:=Aq ok.co E Aa 27 15 14 0 0 lc Ab Ab Ab Ab Ab Aa;have h5:=Aq ok.co (A5 E 27 15 14 0 0 lc) U4 33 0 15 0 0 0 Ab Ab Ab Ab Ab Ab;rw [BZ,if_neg hi0] at hfB;rw [← hfB] at h5;have hF1:F.P=E.P∧F.base=E.base∧F.fn=E.fn∧F.frames=E.frames∧F.entries=E.entries∧F.calls=E.calls∧F.bad=E.bad∧F.steps=E.steps∧F.backs=E.backs∧F.temps=E.temps∧F.most=E.most:=by
     rw [hfB];exact ⟨rfl,rfl,rfl,rfl,rfl,rfl,rfl,rfl,rfl,rfl,rfl⟩
    have w5:IntKind.i64.wrap (IntKind.i64.wrap ((lc:Int) + 1) + (E.most:Int))=((lc + 1 + F.most:Nat):Int):=by
     have h1:=hBs.most;have h2:(Dt S i).most=0:=rfl;have h3:F.most=E.most:=hF1.2.2.2.2.2.2.2.2.2.2;rw [AR (n:=(lc:Int) + 1) Aa,AR Aa];omega
    have hFw:F.words.length≤E.words.length + 2:=by rw [hfB,Aj,Aj];omega
    generalize hnn:lc + 1 + F.most=n at *
    have hnb:n < 1000000:=by
     have h1:=hBs.most;have h2:(Dt S i).most=0:=rfl;omega
    simp only [Bz,Int.natCast_zero,hF1,Ed] at h4 h5;simp only [d2,e0,← hbb,A8,A7,A6,LZ,seval];refine Ah [0,8,2,10,4,9,11,13] [0,8] [0,1] (h4) (by simp only [Ak,Ae,AA,seval]) Ab (by ((try simp only [Ak,Ae,LH,Ai,LY,seval]);first | done | exact True.intro | rfl)) (by ((try simp only [Ak,Ae,LH,Ai,LY,seval]);first | done | exact True.intro | rfl)) ?_;simp only [Ad,Ae,LH,Ai,AW,seval];refine Ah [0,110,2,10,4,9,11,13] [0,110] [0,1] (h5) (by simp only [Ak,Ae,AA,seval]) Ab (by ((try simp only [Ak,Ae,LH,Ai,LY,seval]);first | done | exact True.intro | rfl)) (by ((try simp only [Ak,Ae,LH,Ai,LY,seval]);first | done | exact True.intro | rfl)) ?_;simp only [Ad,Ae,LH,Ai,Xa,Cp,CM,AW,A8,A7,A6,w5,ER,seval];have hfl:E.frames.length < 1000:=by
     rw [hhf,qf,hTf];exact hfr
    refine ⟨by omega,?_⟩;refine Au (σ:=Nat) (fun j=>j≤F.steps.length) (fun j=>fr 124 [(0,.ptr 0 []),(8,.int .i64 n),(113,Ee 12 F.steps.length),(114,.int .i64 F.steps.length),(115,.int .i64 j)])
     (fun j=>Ov (Fw (FA F n) n F.steps j)) (fun _=>14) (fun j=>F.steps.length - j) 0 (Nat.zero_le _) ?_ ?_
    ·simp only [Fw,Ov,Bz,LFr,hF1,Ci];refine Av.frO [0,1,2,3,4,5,6,7,142,558,10,9,11,13] [] [0,4,8,9,10,11,12] hx Bg Ab (by simp only [AA,seval]) ?_ ?_
     ·simp only [Int.natCast_zero,LH,Ai,LY,seval]
     ·simp only [Ak,Ae,LH,Ai,Ci,LY,seval]
    have hwF:=hBs.wf (FH hw i);clear hF1 hfB h4;intro j hj;refine eX ?_;have hpt:=Fq (FA F n) n F.steps j;have hps:(Fw (FA F n) n F.steps j).steps=F.steps:=hpt.2.2.2.2.2.2.2.1;have hpw:(Fw (FA F n) n F.steps j).words.length=F.words.length:=hpt.2.2.2.2.2.2.2.2.2.2.2;by_cases hin:j=F.steps.length
    ·subst hin;have d3:((F.steps.length:Int) < (F.steps.length:Int))=False:=eq_false Aa;generalize Fw (FA F n) n F.steps F.steps.length=G at *
     simp only [Ov,Bz];simp only [d3,LZ,seval];refine Ay.mkO hx [0,1,2,3,4,5,6,7,8,9,10,11,12,13] [] [0,4,8,9,10,11] _ _ _ (by simp only [Ak,Ae,AA,seval]) Ab (by (simp only [Dz,Ak,Ae,LH,Ai,seval])) (by ((try simp only [DK,Ak,Ae,LH,Ai,seval]);first | done | exact True.intro | (intros;rfl))) (by ((try simp only [Ak,Ae,LH,Ai,LY,seval]);first | done | exact True.intro | (intros;rfl))) ⟨rfl,rfl,rfl⟩
    ·have d3:((j:Int) < (F.steps.length:Int))=True:=eq_true Aa;have d4:(0≤(j:Int))=True:=eq_true Aa;have hlt:j < F.steps.length:=Aa;have hne2:F.steps.length ≠ 0:=Aa;have hnl:BO F.steps = .ar 1 F.steps.length fun j=>.int .i64 (F.steps.getD j 0:Nat):=rfl;have w2:IntKind.i64.wrap ((j:Int) + 1)=((j + 1:Nat):Int):=by have:=hwF.sl;rw [AR Aa];omega
     have hn1:Fw (FA F n) n F.steps (j + 1)=Ei (Fw (FA F n) n F.steps j) (F.steps.getD j 0) n:=rfl;have hat:F.steps.getD j 0 < F.words.length:=by
      rw [List.getD_eq_getElem?_getD,List.getElem?_eq_getElem hlt];exact hwF.sk _ (List.getElem_mem hlt)
     generalize Fw (FA F n) n F.steps j=T1 at *
     have h4:=FX ok.co T1 (F.steps.getD j 0) n Aa Aa Aa;simp only [Ov,Bz,LPt,hps] at h4 ⊢;simp only [d3,d4,AD hne2,CK hne2,hnl,LH,Ai,LZ,seval];refine ⟨hlt,?_⟩;refine Ah [0,8,9,10,4,11,12,13] [0,8] [0,1] (h4) (by simp only [Ak,Ae,AD hne2,AA,seval]) Ab (by ((try simp only [Ak,Ae,AD hne2,LH,Ai,LY,seval]);first | done | exact True.intro | rfl)) (by ((try simp only [Ak,Ae,AD hne2,LH,Ai,LY,seval]);first | done | exact True.intro | rfl)) ?_;simp only [Ad,Ae,LH,Ai,AW,AD hne2,w2,seval];refine ⟨j + 1,by omega,by omega,?_⟩;rw [hn1];simp only [LPt,hps,← hnl];refine Av.frO [0,1,2,3,4,5,6,7,8,9,10,11,12,13] [] [0,4,8,9,10,11,12] hx Bg Ab (by simp only [AA,seval]) ?_ ?_
     ·simp only [AD hne2,LH,Ai,LY,seval]
     ·simp only [AD hne2,CK hne2,Ak,Ae,LH,Ai,Ci,LY,seval]
  ·have d2:((j:Int) < (A.backs.length:Int))=True:=eq_true Aa;have d3:(0≤(j:Int))=True:=eq_true Aa;have hlt:j < A.backs.length:=Aa;have hne2:A.backs.length ≠ 0:=Aa;have hnl:BO A.backs = .ar 1 A.backs.length fun j=>.int .i64 (A.backs.getD j 0:Nat):=rfl;have w2:IntKind.i64.wrap ((j:Int) + 1)=((j + 1:Nat):Int):=by have:=hwA.kll;rw [AR Aa];omega
   have hn1:G1 A A.backs (j + 1)=Ga (G1 A A.backs j) (A.backs.getD j 0):=rfl;have hat:A.backs.getD j 0 < A.words.length:=by
    rw [List.getD_eq_getElem?_getD,List.getElem?_eq_getElem hlt];exact hwA.kk _ (List.getElem_mem hlt)
   generalize G1 A A.backs j=T1 at *
   have h4:=Fh ok.co T1 (A.backs.getD j 0) Aa Aa;simp only [Ab8,Bz,LHe,hhb] at h4 ⊢;simp only [d2,d3,AD hne2,CK hne2,hnl,LH,Ai,LZ,seval];refine ⟨hlt,?_⟩;refine Ah [0,8,2,10,4,9,11,13] [0,8] [0,1] (h4) (by simp only [Ak,Ae,AD hne2,AA,seval]) Ab (by ((try simp only [Ak,Ae,AD hne2,LH,Ai,LY,seval]);first | done | exact True.intro | rfl)) (by ((try simp only [Ak,Ae,AD hne2,LH,Ai,LY,seval]);first | done | exact True.intro | rfl)) ?_;simp only [Ad,Ae,LH,Ai,AW,AD hne2,w2,seval];refine ⟨j + 1,by omega,by omega,?_⟩;rw [hn1];simp only [LHe,hhb,← hnl];refine Av.frO [0,1,2,3,4,5,6,7,8,9,10,11,12,13] [] [0,2,4,8,9,10,11,12,13] hx Bg Ab (by simp only [AA,seval]) ?_ ?_
   ·simp only [AD hne2,LH,Ai,LY,seval]
   ·simp only [AD hne2,CK hne2,Ak,hbx,Ae,LH,Ai,Ci,LY,seval]
 ·have d2:((pc + j:Nat):Int) < (lc:Int):=Aa;have w2:IntKind.i64.wrap (((pc + j:Nat):Int) + 1)=((pc + (j + 1):Nat):Int):=B7;have hn1:GA (A5 (Dt S i) 28 0 14 15 0 lc) pc (j + 1)=A5 (GA (A5 (Dt S i) 28 0 14 15 0 lc) pc j) 28 0 14 12 0 ((pc + j:Nat):Int):=rfl;have hTw:=hlo.2.2.2.2.2.2.2.2.2.2.2;generalize GA (A5 (Dt S i) 28 0 14 15 0 lc) pc j=T at *
  have h2:=Aq ok.co T Aa 28 0 14 12 0 ((pc + j:Nat):Int) Ab Ab Ab Ab Ab Aa;simp only [Ad5,Bz,Int.natCast_zero,Ed] at h2 ⊢;simp only [eq_true d2,← hbb,A8,A7,A6,w2,LZ,seval];refine Ah [0,8,2,10,4,5,6,7] [0,8] [0,1] (h2) (by simp only [Ak,Ae,AA,seval]) Ab (by ((try simp only [Ak,Ae,LH,Ai,LY,seval]);first | done | exact True.intro | rfl)) (by ((try simp only [Ak,Ae,LH,Ai,LY,seval]);first | done | exact True.intro | rfl)) ?_;simp only [Ad,Ae,LH,Ai,AW,w2,seval];refine ⟨j + 1,by omega,by omega,?_⟩;rw [hn1];simp only [Ed,hbb];refine Av.frO [0,1,2,3,4,5,6,7,109,9,10,11,12] [] [0,2,4,5,8,10,12] hx Bg Ab (by simp only [AA,seval]) ?_ ?_
  ·simp only [LH,Ai,LY,seval]
  ·simp only [Ak,hbx,Ae,LH,Ai,LY,seval]
end Mv
namespace Mv
open Go
def MG:Fu:=⟨0,0,[]⟩
def cd0 (P:List Fu) (base:Int):Cd:=⟨P,base,0,[],[],[],[],[],[],[],0,0⟩
def BJ (P:List Fu) (base:Int):Cd:=A5 (cd0 P base) 26 14 0 0 0 (base - 512)
def CR (P:List Fu) (S:Cd):Nat→Cd
 | 0=>S
 | j + 1=>IY (CR P S j) j (Db P j).toNat (Bi P j).toNat (P.getD j MG).body
def Dv (S:Cd) (cs:List (Nat × Nat)) (en:List Nat) (seen:Nat→Bool):Nat→Cd
 | 0=>S
 | i + 1=>if seen i then Ei (Dv S cs en seen i) (cs.getD i (0,0)).1 (en.getD (cs.getD i (0,0)).2 0) else Dv S cs en seen i
def Bj (P:List Fu) (base:Int):Cd :=
 let F:=CR P (BJ P base) P.length
 let A:=Dv F F.calls F.entries (fun _=>true) F.calls.length
 IW (G1 A A.bad A.bad.length) 18446744073709551615#64
structure FnI (P:List Fu) (base:Int) (c:Nat→Nat) (j:Nat) (T:Cd):Prop where
 eP:T.P=P
 eb:T.base=base
 fr:T.frames.length=j
 en:T.entries.length=j
 wo:T.words.length≤1 + 24 * Be c j + 28 * j
 pos:1≤T.words.length
 wf:WFw T
 cq:∀ p ∈ T.calls,p.2 < P.length
 ev:∀ e ∈ T.entries,e≤T.words.length
 fb:∀ y ∈ T.frames,y≤100000
theorem FnI.zero (P:List Fu) (base:Int) (c:Nat→Nat):FnI P base c 0 (BJ P base) :=
 ⟨rfl,rfl,rfl,rfl,Nat.le_refl 1,Nat.le_refl 1,⟨Nat.zero_le _,Nat.zero_le _,fun p hp=>Q4,fun p hp=>Q4,List.Pairwise.nil⟩,fun p hp=>Q4,fun p hp=>Q4,fun p hp=>Q4⟩
theorem FnI.next {P:List Fu} {base:Int} {c:Nat→Nat} {j:Nat} {T:Cd} (h:FnI P base c j T) (hj:j < P.length) (hb:RB P j 16 (P.getD j MG).body (c j)) (hl:0≤Bi P j∧Bi P j≤24) (hc:c j≤6000) :
 FnI P base c (j + 1) (IY T j (Db P j).toNat (Bi P j).toNat (P.getD j MG).body):=by
 have e:=Alf P T j (Db P j).toNat (Bi P j).toNat _ _ hb Aa h.wf;have q:=Af5 P T j (Db P j).toNat (Bi P j).toNat _ _ hb;obtain ⟨e1,e2,e3,e4,e5,e6,e7⟩:=e;have hs:=C8 c j;refine ⟨e1.trans h.eP,e2.trans h.eb,by rw [e3,Ew,h.fr],by rw [e4,Ew,h.en],?_,Nat.le_trans h.pos e6,e7,fun p hp=>(q p hp).elim (h.cq p) id,fun e he=>?_,fun y hy=>?_⟩
 ·have:=h.wo;omega
 ·rw [e4] at he;rcases List.mem_append.1 he with he | he
  ·exact Nat.le_trans (h.ev e he) e6
  ·simp at he;subst he;exact e6
 ·rw [e3] at hy;rcases List.mem_append.1 hy with hy | hy
  ·exact h.fb y hy
  ·rw [List.mem_singleton] at hy;subst hy;have g:=(Nv P T j (Db P j).toNat (Bi P j).toNat _ _ hb Aa).most;have g0:(Dt T j).most=0:=rfl;omega
theorem Ng (P:List Fu) (base:Int) (c:Nat→Nat) (hb:∀ j,j < P.length→RB P j 16 (P.getD j MG).body (c j)) (hl:∀ j,j < P.length→0≤Bi P j∧Bi P j≤24) (hc:Be c P.length≤6000):∀ j,j≤P.length→FnI P base c j (CR P (BJ P base) j)
 | 0,_=>FnI.zero P base c
 | j + 1,h=>(Ng P base c hb hl hc j Aa).next Aa (hb j Aa) (hl j Aa) (by have:=DF c (show j < P.length by omega);omega)
theorem FW (S:Cd) (cs:List (Nat × Nat)) (en:List Nat) (seen:Nat→Bool):∀ j,(Dv S cs en seen j).P=S.P∧(Dv S cs en seen j).base=S.base∧(Dv S cs en seen j).fn=S.fn∧(Dv S cs en seen j).frames=S.frames∧(Dv S cs en seen j).entries=S.entries∧(Dv S cs en seen j).calls=S.calls∧(Dv S cs en seen j).bad=S.bad∧(Dv S cs en seen j).steps=S.steps∧(Dv S cs en seen j).backs=S.backs∧(Dv S cs en seen j).temps=S.temps∧(Dv S cs en seen j).most=S.most∧(Dv S cs en seen j).words.length=S.words.length
 | 0=>⟨rfl,rfl,rfl,rfl,rfl,rfl,rfl,rfl,rfl,rfl,rfl,rfl⟩
 | j + 1 => by
   have h:=FW S cs en seen j;simp only [Dv];split
   ·refine ⟨h.1,h.2.1,h.2.2.1,h.2.2.2.1,h.2.2.2.2.1,h.2.2.2.2.2.1,h.2.2.2.2.2.2.1,h.2.2.2.2.2.2.2.1,h.2.2.2.2.2.2.2.2.1,h.2.2.2.2.2.2.2.2.2.1,h.2.2.2.2.2.2.2.2.2.2.1,?_⟩;rw [Hl];exact h.2.2.2.2.2.2.2.2.2.2.2
   ·exact h
def Fo (seen:Nat→Bool) (k i:Nat):Bool:=if i=k then true else seen i
theorem JG (S:Cd) (cs:List (Nat × Nat)) (en:List Nat) (f g:Nat→Bool):∀ j,(∀ i,i < j→f i=g i)→Dv S cs en f j=Dv S cs en g j
 | 0,_=>rfl
 | j + 1, h => by
   have ih:=JG S cs en f g j fun i hi=>h i Aa;simp only [Dv,h j Aa,ih]
theorem Pk (S:Cd) (cs:List (Nat × Nat)) (en:List Nat):∀ j,Dv S cs en (fun _=>false) j=S
 | 0=>rfl
 | j + 1=>by simp only [Dv,O3];exact Pk S cs en j
theorem FU (l:List (BitVec 64)) {a b:Nat} (h:a ≠ b) (w d:BitVec 64):(l.set a w).getD b d=l.getD b d:=by
 simp only [List.getD_eq_getElem?_getD,List.getElem?_set,h,if_false]
theorem YJ (S:Cd) {a b:Nat} (h:a ≠ b) (m n:Nat):Ei (Ei S a m) b n=Ei (Ei S b n) a m:=by
 simp only [Ei,FU _ h,FU _ (Ne.symm h)];rw [List.set_comm _ _ h]
theorem SN (S:Cd) (cs:List (Nat × Nat)) (en:List Nat) (seen:Nat→Bool) (k:Nat) (hk:seen k=false):∀ j,k < j→(∀ i,i < j→i ≠ k→(cs.getD i (0,0)).1 ≠ (cs.getD k (0,0)).1) →
 Dv S cs en (Fo seen k) j=Ei (Dv S cs en seen j) (cs.getD k (0,0)).1 (en.getD (cs.getD k (0,0)).2 0)
 | 0,h,_=>by omega
 | j + 1, h, hd => by
   by_cases hjk:j=k
   ·subst hjk;have e:Dv S cs en (Fo seen j) j=Dv S cs en seen j:=JG S cs en _ _ j fun i hi=>by simp [Fo,show i ≠ j by omega]
    simp only [Dv,Fo,Lbn,hk];rw [e]
   ·have ih:=SN S cs en seen k hk j Aa fun i hi=>hd i Aa;have e:Fo seen k j=seen j:=by simp [Fo,hjk]
    simp only [Dv,e];split
    ·rw [ih,YJ _ (fun h'=>hd j Aa hjk h'.symm)]
    ·exact ih
theorem Aby (S:Cd) (cs:List (Nat × Nat)) (en:List Nat) (seen:Nat→Bool) (n:Nat) (h:∀ i,i < n→seen i=true):Dv S cs en seen n=Dv S cs en (fun _=>true) n:=JG S cs en _ _ n h
theorem Am3 {cs:List (Nat × Nat)} (h:cs.Pairwise fun p q=>p.1 < q.1) {i k:Nat} (hi:i < cs.length) (hk:k < cs.length) (hne:i ≠ k):(cs.getD i (0,0)).1 ≠ (cs.getD k (0,0)).1:=by
 rw [List.getD_eq_getElem?_getD,List.getElem?_eq_getElem hi,List.getD_eq_getElem?_getD,List.getElem?_eq_getElem hk];simp only [Option.getD_some];rcases Nat.lt_or_gt_of_ne hne with hlt | hlt
 ·have:=List.pairwise_iff_getElem.1 h i k hi hk hlt;omega
 ·have:=List.pairwise_iff_getElem.1 h k i hk hi hlt;omega
def DS (seen:Nat→Bool):Nat→Nat
 | 0=>0
 | i + 1=>DS seen i + if seen i then 0 else 1
theorem IG (f g:Nat→Bool):∀ j,(∀ i,i < j→f i=g i)→DS f j=DS g j
 | 0,_=>rfl
 | j + 1,h=>by simp only [DS,h j Aa,IG f g j fun i hi=>h i Aa]
theorem JH (seen:Nat→Bool) (k:Nat) (hk:seen k=false):∀ j,k < j→DS (Fo seen k) j < DS seen j
 | 0,h=>by omega
 | j + 1, h => by
   by_cases hjk:j=k
   ·subst hjk;have e:DS (Fo seen j) j=DS seen j:=IG _ _ j fun i hi=>by simp [Fo,show i ≠ j by omega]
    simp only [DS,e,hk];simp [Fo]
   ·have ih:=JH seen k hk j Aa;have e:Fo seen k j=seen j:=by simp [Fo,hjk]
    simp only [DS,e];omega
end Mv
