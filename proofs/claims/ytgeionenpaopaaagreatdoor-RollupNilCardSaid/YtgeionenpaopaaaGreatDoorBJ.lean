/- A part. -/
import Derived.Test.YtgeionenpaopaaaGreatDoorBI
set_option linter.all false
set_option maxRecDepth 20000
set_option maxHeartbeats 8000000
namespace Mv
open Go
variable {M:Seat}
theorem FX (ok:OkCo M) (S:Cd) (at' n:Nat) (h:at' < S.words.length) (hn:n < 1000000) (hm:S.words.length < 1000000) :
 As M 407 [.ptr 0 [],.int .i64 at',.int .i64 n] [(0,Bz 1 2 3 5 6 7 S),(1,EN S.words)] 8
  (Q3 (.tup .fnil) [(0,Bz 1 2 3 5 6 7 (Ei S at' n)),(1,EN (Ei S at' n).words)] 8):=by
 have d0:(0≤(at':Int))=True:=eq_true Aa;have d1:((at':Int) < (S.words.length:Int))=True:=eq_true Aa;have wu:IntKind.u32.wrap (n:Int)=n:=by
  have e:IntKind.u32.wrap (n:Int)=(n:Int) % 4294967296:=Q0;rw [e];omega
 have hl:(Ei S at' n).words.length=S.words.length:=by simp [Ei]
 have hw:(Ei S at' n).words=S.words.set at' (S.words.getD at' 0#64 >>> 32 <<< 32 ||| BitVec.ofInt 64 n):=by simp only [Ei,O4,RY]
 simp only [Bz,EN,hl];rw [hw];refine Ac ok.k407 rfl fun x hx=>?_;refine eX ?_;simp only [Ad4,Ajk,Dk,Dl,Dj,DG,D0,DB,d0,d1,wu,LZ,seval];refine ⟨h,h,h,?_⟩;refine Ay.mkO hx [0,1,2,3,4,5,6,7] [] [0,1] _ _ _ (by simp only [AA,seval]) Ab (by (simp only [Dz,seval])) (by simp only [DK,seval]) ?_ ⟨rfl,rfl,rfl⟩;simp only [Ei,List.length_set,Ak,LH,Ai,LY,seval];intro i _;rw [Af2 _ _ _ h]
 repeat' split
 all_goals rfl
theorem GJ (ok:OkCo M) (y:Ex):As M 539 [AE y] [] 0 (Q3 (.bool (Jl y)) [] 0):=by
 obtain ⟨op,n,as⟩:=y;refine Ac ok.k539 rfl fun x hx=>?_;simp only [Jl,Ex.op,AE];by_cases h6:op=26
 ·refine eX ?_;simp only [Zh,Aam,eq_true h6,AU,AY,AZ,LZ,seval];exact Ay.mkZ hx [] ⟨rfl,rfl,rfl⟩
 ·by_cases h7:op=27
  ·refine eX ?_;simp only [Zh,Aam,eq_false h6,eq_true h7,AU,AY,AZ,LZ,seval];exact Ay.mkZ hx [] ⟨rfl,rfl,rfl⟩
  ·refine eX ?_;simp only [Zh,Aam,eq_false h6,eq_false h7,AU,AY,AZ,LZ,seval];exact Ay.mkZ hx [] ⟨rfl,rfl,rfl⟩
theorem Eh (ok:OkCo M) (S:Cd) (t:Nat) (hi:S.fn < S.P.length) (hl:0≤Bi S.P S.fn∧Bi S.P S.fn≤1000) (ht:t < 1000000) :
 As M 540 [.ptr 0 [],.int .i64 t] [(0,Bz 1 2 3 5 6 7 S)] 8 (Q3 (.int .i64 (Eb S t)) [(0,Bz 1 2 3 5 6 7 S)] 8):=by
 have hne:S.P ≠ []:=by intro h;rw [h] at hi;exact absurd hi BF
 have hf:=Ft hi;have d0:(0≤(S.fn:Int))=True:=eq_true Aa;have d1:((S.fn:Int) < (S.P.length:Int))=True:=eq_true Aa;have w1:IntKind.i64.wrap (Bi S.P S.fn + 1)=Bi S.P S.fn + 1:=Pt;have w2:IntKind.i64.wrap (Bi S.P S.fn + 1 + t)=Bi S.P S.fn + 1 + t:=Pt;unfold Eb;simp only [Bz];have hL:=BD S.P hne;refine Ac ok.k540 rfl fun x hx=>?_;refine eX ?_;simp only [Agu,Amr,Dk,Dl,Dj,DG,D0,DB,d0,d1,hf,hL,w1,w2,LZ,seval];have hsl:∀ H m z,Aw H m z (.lst 3 S.P.length (BW S.P)) (.lst 3 S.P.length (BW S.P))=True:=fun H m z=>by rw [← hL];exact eq_true (En H m z S.P)
 refine Ay.mkO hx [0,1,2,3,4,5,6,7] [] [0] _ _ _ (by simp only [hsl,AA,seval]) Ab (by (simp only [Dz,hsl,LH,Ai,seval])) (by ((try simp only [DK,hsl,LH,Ai,seval]);first | done | exact True.intro | (intros;rfl))) (by ((try simp only [hsl,LH,Ai,LY,seval]);first | done | exact True.intro | (intros;rfl))) ⟨rfl,rfl,rfl⟩
theorem OF (ok:OkCo M) (S:Cd) (hm:S.words.length < 900000) (reg:Nat) (hr:reg < 16) (v:BitVec 64) :
 As M 537 [.ptr 0 [],.int .i64 reg,W v] [(0,Bz 1 2 3 5 6 7 S),(1,EN S.words)] 8
  (Q3 (.tup .fnil) [(0,Bz 8 2 3 5 6 7 (H4 S reg v)),(8,EN (H4 S reg v).words)] 9):=by
 have hb:=MC v;have hb':=MC (v >>> 32);have e2:(BitVec.setWidth 32 v).toInt=Bl v:=rfl;have e2':(BitVec.setWidth 32 (v >>> 32)).toInt=Bl (v >>> 32):=rfl;have e3:IntKind.i64.wrap (Bl v)=Bl v:=Pt;have e3':IntKind.i64.wrap (Bl (v >>> 32))=Bl (v >>> 32):=Pt;by_cases he:v.toInt=Bl v
 ·have hE:=Aq ok S Aa 26 reg 0 0 0 v.toInt hr Ab Ab Ab Ab Aa;have hcn:H4 S reg v=A5 S 26 reg 0 0 0 v.toInt:=by rw [H4,if_pos he]
  rw [hcn];simp only [Bz,Ed,Int.natCast_zero] at hE ⊢;refine Ac ok.k537 rfl fun x hx=>?_;refine eX ?_;simp only [UK,Afb,e2,e3,eq_true he,LZ,seval];refine Ah [0,1,2,3,4,5,6,7] [0,1] [0,1] (hE) (by simp only [Ak,Ae,AA,seval]) Ab (by ((try simp only [Ak,Ae,LH,Ai,LY,seval]);first | done | exact True.intro | rfl)) (by ((try simp only [Ak,Ae,LH,Ai,LY,seval]);first | done | exact True.intro | rfl)) ?_;simp only [Ad,Ae,LH,Ai,AW,seval];refine Ay.mkO hx [0,1,2,3,4,5,6,7,168] [] [0,8] _ _ _ (by simp only [Ak,Ae,AA,seval]) Ab (by (simp only [Dz,Ak,Ae,LH,Ai,seval])) (by ((try simp only [DK,Ak,Ae,LH,Ai,seval]);first | done | exact True.intro | (intros;rfl))) (by ((try simp only [Ak,Ae,LH,Ai,LY,seval]);first | done | exact True.intro | (intros;rfl))) ⟨rfl,rfl,rfl⟩
 ·have hcn:H4 S reg v=A5 (A5 (A5 (A5 (A5 (A5 (A5 S 26 reg 0 0 0 (Bl (v >>> 32))) 26 11 0 0 0 32) 13 reg 11 reg 0 0) 26 10 0 0 0 (Bl v)) 13 10 11 10 0 0) 14 10 11 10 0 0) 23 reg reg 10 0 0:=by rw [H4,if_neg he]
  rw [hcn];have h1:=Aq ok S Aa 26 reg 0 0 0 (Bl (v >>> 32)) hr Ab Ab Ab Ab Aa;generalize hS1:A5 S 26 reg 0 0 0 (Bl (v >>> 32))=S1 at *
  have q1:S1.words.length=S.words.length + 1:=by rw [← hS1,Aj]
  have h2:=Aq ok S1 Aa 26 11 0 0 0 32 Ab Ab Ab Ab Ab Ab;generalize hS2:A5 S1 26 11 0 0 0 32=S2 at *
  have q2:S2.words.length=S1.words.length + 1:=by rw [← hS2,Aj]
  have h3:=Aq ok S2 Aa 13 reg 11 reg 0 0 hr Ab hr Ab Ab Ab;generalize hS3:A5 S2 13 reg 11 reg 0 0=S3 at *
  have q3:S3.words.length=S2.words.length + 1:=by rw [← hS3,Aj]
  have h4:=Aq ok S3 Aa 26 10 0 0 0 (Bl v) Ab Ab Ab Ab Ab Aa;generalize hS4:A5 S3 26 10 0 0 0 (Bl v)=S4 at *
  have q4:S4.words.length=S3.words.length + 1:=by rw [← hS4,Aj]
  have h5:=Aq ok S4 Aa 13 10 11 10 0 0 Ab Ab Ab Ab Ab Ab;generalize hS5:A5 S4 13 10 11 10 0 0=S5 at *
  have q5:S5.words.length=S4.words.length + 1:=by rw [← hS5,Aj]
  have h6:=Aq ok S5 Aa 14 10 11 10 0 0 Ab Ab Ab Ab Ab Ab;generalize hS6:A5 S5 14 10 11 10 0 0=S6 at *
  have q6:S6.words.length=S5.words.length + 1:=by rw [← hS6,Aj]
  have h7:=Aq ok S6 Aa 23 reg reg 10 0 0 hr hr Ab Ab Ab Ab;clear hS1 hS2 hS3 hS4 hS5 hS6;simp only [Bz,Int.natCast_zero] at h1 h2 h3 h4 h5 h6 h7 ⊢;refine Ac ok.k537 rfl fun x hx=>?_;refine eX ?_;simp only [UK,Afb,e2,e3,e2',e3',eq_false he,LZ,seval];refine Ah [0,1,2,3,4,5,6,7] [0,1] [0,1] (h1) (by simp only [Ak,Ae,AA,seval]) Ab (by ((try simp only [Ak,Ae,LH,Ai,LY,seval]);first | done | exact True.intro | rfl)) (by ((try simp only [Ak,Ae,LH,Ai,LY,seval]);first | done | exact True.intro | rfl)) ?_;simp only [Ad,Ae,LH,Ai,AW,seval];refine Ah [0,200,2,3,4,5,6,7] [0,200] [0,1] (h2) (by simp only [Ak,Ae,AA,seval]) Ab (by ((try simp only [Ak,Ae,LH,Ai,LY,seval]);first | done | exact True.intro | rfl)) (by ((try simp only [Ak,Ae,LH,Ai,LY,seval]);first | done | exact True.intro | rfl)) ?_;simp only [Ad,Ae,LH,Ai,AW,seval];refine Ah [0,232,2,3,4,5,6,7] [0,232] [0,1] (h3) (by simp only [Ak,Ae,AA,seval]) Ab (by ((try simp only [Ak,Ae,LH,Ai,LY,seval]);first | done | exact True.intro | rfl)) (by ((try simp only [Ak,Ae,LH,Ai,LY,seval]);first | done | exact True.intro | rfl)) ?_;simp only [e2,e3,Ad,Ae,LH,Ai,AW,seval];refine Ah [0,296,2,3,4,5,6,7] [0,296] [0,1] (h4) (by simp only [Ak,Ae,AA,seval]) Ab (by ((try simp only [Ak,Ae,LH,Ai,LY,seval]);first | done | exact True.intro | rfl)) (by ((try simp only [Ak,Ae,LH,Ai,LY,seval]);first | done | exact True.intro | rfl)) ?_;simp only [Ad,Ae,LH,Ai,AW,seval];refine Ah [0,376,2,3,4,5,6,7] [0,376] [0,1] (h5) (by simp only [Ak,Ae,AA,seval]) Ab (by ((try simp only [Ak,Ae,LH,Ai,LY,seval]);first | done | exact True.intro | rfl)) (by ((try simp only [Ak,Ae,LH,Ai,LY,seval]);first | done | exact True.intro | rfl)) ?_;simp only [Ad,Ae,LH,Ai,AW,seval];refine Ah [0,408,2,3,4,5,6,7] [0,408] [0,1] (h6) (by simp only [Ak,Ae,AA,seval]) Ab (by ((try simp only [Ak,Ae,LH,Ai,LY,seval]);first | done | exact True.intro | rfl)) (by ((try simp only [Ak,Ae,LH,Ai,LY,seval]);first | done | exact True.intro | rfl)) ?_;simp only [Ad,Ae,LH,Ai,AW,seval];refine Ah [0,440,2,3,4,5,6,7] [0,440] [0,1] (h7) (by simp only [Ak,Ae,AA,seval]) Ab (by ((try simp only [Ak,Ae,LH,Ai,LY,seval]);first | done | exact True.intro | rfl)) (by ((try simp only [Ak,Ae,LH,Ai,LY,seval]);first | done | exact True.intro | rfl)) ?_;simp only [Ad,Ae,LH,Ai,AW,seval];refine Ay.mkO hx [0,1,2,3,4,5,6,7,504] [] [0,8] _ _ _ (by simp only [Ak,Ae,AA,seval]) Ab (by (simp only [Dz,Ak,Ae,LH,Ai,seval])) (by ((try simp only [DK,Ak,Ae,LH,Ai,seval]);first | done | exact True.intro | (intros;rfl))) (by ((try simp only [Ak,Ae,LH,Ai,LY,seval]);first | done | exact True.intro | (intros;rfl))) ⟨rfl,rfl,rfl⟩
theorem CC (ok:OkCo M) (S:Cd) (hm:S.words.length < 900000) (hb:S.bad.length < 900000) (reg:Nat) (hr:reg < 16) (n:Int) (hn:0≤n∧n < 100000) :
 As M 518 [.ptr 0 [],.int .i64 reg,.int .i64 n] ((0,Bz 1 2 3 5 6 7 S) :: (1,EN S.words) :: D8 S.bad.length 5 (BO S.bad) []) 8
  (Q3 (.tup .fnil) [(0,Bz 8 2 3 9 6 7 (F4 S reg n)),(8,EN (F4 S reg n).words),(9,BO (F4 S reg n).bad)] 10):=by
 unfold F4;have h1:=Aq ok S Aa 26 10 0 0 0 n Ab Ab Ab Ab Ab Aa;have b1:(A5 S 26 10 0 0 0 n).bad=S.bad:=rfl;generalize hS1:A5 S 26 10 0 0 0 n=S1 at *
 have q1:S1.words.length=S.words.length + 1:=by rw [← hS1,Aj]
 have h2:=Aq ok S1 Aa 16 10 reg 10 0 0 Ab hr Ab Ab Ab Ab;have b2:(A5 S1 16 10 reg 10 0 0).bad=S1.bad:=rfl;generalize hS2:A5 S1 16 10 reg 10 0 0=S2 at *
 have bb:S2.bad=S.bad:=by rw [b2,b1]
 have q2:S2.words.length=S1.words.length + 1:=by rw [← hS2,Aj]
 have h3:=Aq ok S2 Aa 30 0 10 0 0 0 Ab Ab Ab Ab Ab Ab;clear hS1 hS2;have b3:(bd2 S2).bad=S2.bad ++ [S2.words.length]:=rfl;simp only [Bz,Int.natCast_zero,Ed,LBd,b3,bb,b1] at h1 h2 h3 ⊢;refine Ac ok.k518 rfl fun x hx=>?_;refine eX ?_;simp only [Aid,Am1,LZ,seval];refine Ah [0,1,2,3,4,5,6,7] [0,1] [0,1] (h1) (by simp only [Ak,Ae,AA,seval]) Ab (by ((try simp only [Ak,Ae,LH,Ai,LY,seval]);first | done | exact True.intro | rfl)) (by ((try simp only [Ak,Ae,LH,Ai,LY,seval]);first | done | exact True.intro | rfl)) ?_;simp only [Ad,Ae,LH,Ai,AW,seval];refine Ah [0,40,2,3,4,5,6,7] [0,40] [0,1] (h2) (by simp only [Ak,Ae,AA,seval]) Ab (by ((try simp only [Ak,Ae,LH,Ai,LY,seval]);first | done | exact True.intro | rfl)) (by ((try simp only [Ak,Ae,LH,Ai,LY,seval]);first | done | exact True.intro | rfl)) ?_;simp only [Ad,Ae,LH,Ai,AW,seval];refine Nb [0,88,2,3,4,5,6,7] [0,88] [0,1] (h3) (by simp only [Ak,Ae,AA,seval]) Ab (by ((try simp only [Ak,Ae,LH,Ai,LY,seval]);first | done | exact True.intro | rfl)) (by ((try simp only [Ak,Ae,LH,Ai,LY,seval]);first | done | exact True.intro | rfl)) ?_;simp only [Ad,Ae,LH,Ai,Xa,Cp,CM,AW,seval];refine ⟨by omega,?_⟩;refine Ay.mkO hx [0,1,2,3,4,5,6,7,312,408] [] [0,8,9] _ _ _ (by simp only [Ak,Ae,Ci,AA,seval]) Ab (by (simp only [Dz,Ak,Ae,Ci,LH,Ai,seval])) (by ((try simp only [DK,Ak,Ae,Ci,LH,Ai,seval]);first | done | exact True.intro | (intros;rfl))) (by ((try simp only [Ak,Ae,Ci,LH,Ai,LY,seval]);first | done | exact True.intro | (intros;rfl))) ⟨rfl,rfl,rfl⟩
end Mv
namespace Mv
open Go
structure WFc (S:Cd):Prop where
 bl:S.bad.length≤S.words.length
 sl:S.steps.length≤S.words.length
 kll:S.backs.length≤S.words.length
 cl:S.calls.length≤S.words.length
 ck:∀ p ∈ S.calls,p.1 < S.words.length
 bk:∀ p ∈ S.bad,p < S.words.length
 sk:∀ p ∈ S.steps,p < S.words.length
 kk:∀ p ∈ S.backs,p < S.words.length
 cs:S.calls.Pairwise fun p q=>p.1 < q.1
structure Sta (S T:Cd) (k m w:Nat):Prop where
 P:T.P=S.P
 base:T.base=S.base
 fn:T.fn=S.fn
 frames:T.frames=S.frames
 entries:T.entries=S.entries
 temps:T.temps=S.temps + k
 most:T.most≤max S.most m
 words:T.words.length≤S.words.length + w
 grow:S.words.length≤T.words.length
 wf:WFc S→WFc T
theorem Sta.refl (S:Cd) (m:Nat):Sta S S 0 m 0:=⟨rfl,rfl,rfl,rfl,rfl,rfl,Nat.le_max_left _ _,Nat.le_refl _,Nat.le_refl _,fun h=>h⟩
theorem Sta.trans {S T U:Cd} {k k' m m' w w':Nat} (h:Sta S T k m w) (g:Sta T U k' m' w') (M:Nat) (hm:m≤M) (hm':m'≤M):Sta S U (k + k') M (w + w') where
 P:=g.P.trans h.P
 base:=g.base.trans h.base
 fn:=g.fn.trans h.fn
 frames:=g.frames.trans h.frames
 entries:=g.entries.trans h.entries
 temps:=by rw [g.temps,h.temps];omega
 most:=by have:=g.most;have:=h.most;omega
 words:=by have:=g.words;have:=h.words;omega
 grow:=Nat.le_trans h.grow g.grow
 wf:=fun q=>g.wf (h.wf q)
theorem Sta.mono {S T:Cd} {k m w:Nat} (h:Sta S T k m w) {M W:Nat} (hm:m≤M) (hw:w≤W):Sta S T k M W :=
 { h with most:=by have:=h.most;omega,words:=by have:=h.words;omega }
theorem WFc.em {S:Cd} (h:WFc S) (w:BitVec 64):WFc (IW S w):=by
 have hl:(IW S w).words.length=S.words.length + 1:=by simp [IW]
 have h1:=h.bl;have h2:=h.sl;have h3:=h.kll;have h4:=h.cl;refine ⟨?_,?_,?_,?_,fun p hp=>?_,fun p hp=>?_,fun p hp=>?_,fun p hp=>?_,h.cs⟩ <;> rw [hl]
 ·show S.bad.length≤_;omega
 ·show S.steps.length≤_;omega
 ·show S.backs.length≤_;omega
 ·show S.calls.length≤_;omega
 ·have:=h.ck p hp;omega
 ·have:=h.bk p hp;omega
 ·have:=h.sk p hp;omega
 ·have:=h.kk p hp;omega
theorem Sta.em (S:Cd) (op:Int) (d a b c:Nat) (n:Int):Sta S (A5 S op d a b c n) 0 0 1 :=
 ⟨rfl,rfl,rfl,rfl,rfl,rfl,Nat.le_max_left _ _,by rw [Aj];exact Nat.le_refl _,by rw [Aj];omega,fun h=>h.em _⟩
theorem Sta.cn (S:Cd) (reg:Nat) (v:BitVec 64):Sta S (H4 S reg v) 0 0 7:=by
 unfold H4;split
 ·exact (Sta.em S _ _ _ _ _ _).mono Aa Aa
 ·have t:=fun (S:Cd) op d a b c n=>Sta.em S op d a b c n;exact (((((((t S _ _ _ _ _ _).trans (t _ _ _ _ _ _ _) 0 Aa Aa).trans (t _ _ _ _ _ _ _) 0 Aa Aa).trans (t _ _ _ _ _ _ _) 0 Aa Aa).trans (t _ _ _ _ _ _ _) 0 Aa Aa).trans (t _ _ _ _ _ _ _) 0 Aa Aa).trans (t _ _ _ _ _ _ _) 0 Aa Aa).mono Aa Aa
theorem Sta.bd2 (S:Cd):Sta S (bd2 S) 0 0 1:=by
 have e:=Sta.em S 30 0 10 0 0 0;have hl:(Mv.bd2 S).words.length=S.words.length + 1:=Aj S 30 0 10 0 0 0;refine ⟨rfl,rfl,rfl,rfl,rfl,rfl,e.most,e.words,e.grow,fun h=>?_⟩;have g:=e.wf h;have hb:=h.bl;refine ⟨?_,g.sl,g.kll,g.cl,g.ck,fun p hp=>?_,g.sk,g.kk,g.cs⟩
 ·rw [hl];show (S.bad ++ [S.words.length]).length≤_;rw [Ew];omega
 ·rw [hl];rcases List.mem_append.1 (show p ∈ S.bad ++ [S.words.length] from hp) with hp | hp
  ·have:=h.bk p hp;omega
  ·simp at hp;omega
theorem Sta.bd (S:Cd) (reg:Nat) (n:Int):Sta S (F4 S reg n) 0 0 3 :=
 ((Sta.em S _ _ _ _ _ _).trans (Sta.em _ _ _ _ _ _ _) 0 Aa Aa).trans (Sta.bd2 _) 0 Aa Aa
theorem Sta.tm (S:Cd):Sta S (OK S) 1 (S.temps + 1) 0:=⟨rfl,rfl,rfl,rfl,rfl,rfl,Nat.le_refl _,Nat.le_refl _,Nat.le_refl _,fun h=>⟨h.bl,h.sl,h.kll,h.cl,h.ck,h.bk,h.sk,h.kk,h.cs⟩⟩
theorem Sta.sv (S:Cd) (r:Nat):Sta S (CI S r) 1 (S.temps + 1) 1:=(Sta.em S _ _ _ _ _ _).trans (Sta.tm _) (S.temps + 1) Aa (Nat.le_refl _)
theorem Sta.tp {S T:Cd} {k m w:Nat} (h:Sta S T k m w):Sta S (Bp T S.temps) 0 m w :=
 ⟨h.P,h.base,h.fn,h.frames,h.entries,rfl,h.most,h.words,h.grow,fun q=>let g:=h.wf q;⟨g.bl,g.sl,g.kll,g.cl,g.ck,g.bk,g.sk,g.kk,g.cs⟩⟩
def Be (c:Nat→Nat) (n:Nat):Nat:=((List.range n).map c).sum
theorem C8 (c:Nat→Nat) (n:Nat):Be c (n + 1)=Be c n + c n:=CO c n
theorem DF (c:Nat→Nat) {j n:Nat} (h:j < n):Be c j + c j≤Be c n:=by
 have h1:=FZ c (j + 1) (n - (j + 1));rw [show j + 1 + (n - (j + 1))=n by omega] at h1;have h2:=C8 c j;unfold Be at *
 omega
def SA (f:Ex→Nat→Cd→Cd) (xs:List Ex) (c:Nat→Nat):Prop:=∀ j,j < xs.length→1≤c j∧∀ r S,Sta S (f (xs.getD j Ch) r S) 0 (S.temps + c j) (24 * c j - 3)
theorem DE {f:Ex→Nat→Cd→Cd} {xs:List Ex} {c:Nat→Nat} (hf:SA f xs c):∀ j,j≤xs.length→j≤Be c j
 | 0,_=>Nat.zero_le _
 | j + 1, h => by
   have:=DE hf j Aa;have h1:=(hf j Aa).1;rw [C8];omega
def wA (xs:List Ex) (c:Nat→Nat):Nat→Nat
 | 0=>0
 | j + 1=>wA xs c j + if Jl (xs.getD j Ch) then 0 else 24 * c j - 2
def wC (xs:List Ex) (c:Nat→Nat):Nat→Nat
 | 0=>0
 | j + 1=>wC xs c j + if Jl (xs.getD j Ch) then 24 * c j - 3 else 0
theorem wAC {f:Ex→Nat→Cd→Cd} {xs:List Ex} {c:Nat→Nat} (hf:SA f xs c):∀ j,j≤xs.length→wA xs c j + wC xs c j + 2 * j≤24 * Be c j
 | 0,_=>Nat.zero_le _
 | j + 1, h => by
   have:=wAC hf j Aa;have h1:=(hf j Aa).1;rw [C8];simp only [wA,wC];split <;> omega
theorem Pu {f:Ex→Nat→Cd→Cd} {xs:List Ex} {c:Nat→Nat} (hf:SA f xs c) (j:Nat):∀ d,j + d≤xs.length→Be c j + d≤Be c (j + d)
 | 0,_=>Nat.le_refl _
 | d + 1, h => by
   have h1:=Pu hf j d Aa;have h2:=(hf (j + d) Aa).1;have h3:=C8 c (j + d);rw [show j + (d + 1)=j + d + 1 by omega,h3];omega
theorem Yg {f:Ex→Nat→Cd→Cd} {xs:List Ex} {c:Nat→Nat} (hf:SA f xs c) {j:Nat} (h:j < xs.length):c j + xs.length≤Be c xs.length + 1:=by
 have h1:=Pu hf (j + 1) (xs.length - (j + 1)) Aa;have h2:=DE hf j Aa;have h3:=C8 c j;rw [show j + 1 + (xs.length - (j + 1))=xs.length by omega] at h1;omega
theorem SB (xs:List Ex) (c:Nat→Nat) (a:Nat):∀ d,wC xs c a≤wC xs c (a + d)
 | 0=>Nat.le_refl _
 | d + 1=>Nat.le_trans (SB xs c a d) (by show _≤wC xs c (a + d + 1);simp only [wC];omega)
theorem Nc {f:Ex→Nat→Cd→Cd} {xs:List Ex} {c:Nat→Nat} (hf:SA f xs c) (last:Int) (S:Cd):∀ j,j≤xs.length →
 Sta S (Fz f xs last S j).2 (Fz f xs last S j).1.length (S.temps + Be c j) (wA xs c j)∧(Fz f xs last S j).1.length≤j∧∀ i ∈ (Fz f xs last S j).1,i < j
 | 0,_=>⟨(Sta.refl S _).mono (Nat.le_refl _) (Nat.le_refl _),Nat.le_refl _,fun i h=>by simp [Fz] at h⟩
 | j + 1, h => by
   obtain ⟨h1,h2,h3⟩:=Nc hf last S j Aa;obtain ⟨hc,hs⟩:=hf j Aa;have hj:=DE hf j Aa;have e:=C8 c j;simp only [Fz];split
   ·rename_i hl;exact ⟨h1.mono TK (by simp only [wA];omega),by omega,fun i hi=>by have:=h3 i hi;omega⟩
   ·rename_i hl;have g:=hs (1 + j) (Fz f xs last S j).2;have t:=h1.temps;have g1:=h1.trans g (S.temps + Be c (j + 1)) TK (by rw [t,e];omega);split
    ·refine ⟨g1.mono (Nat.le_refl _) (by simp only [wA];rw [if_neg hl];omega),by show (Fz f xs last S j).1.length≤_;omega,fun i hi=>by have:=h3 i hi;omega⟩
    ·have g2:=g1.trans (Sta.sv _ (1 + j)) (S.temps + Be c (j + 1)) (Nat.le_refl _) (by rw [g1.temps,e];omega);refine ⟨?_,by rw [Ew];omega,fun i hi=>?_⟩
     ·rw [Ew];exact g2.mono (Nat.le_refl _) (by simp only [wA];rw [if_neg hl];omega)
     ·rcases List.mem_append.1 hi with hi | hi
      ·have:=h3 i hi;omega
      ·simp at hi;omega
theorem Nt (first:Nat) (S:Cd) (sv:List Nat):∀ k,Sta S (QN first S sv k) 0 0 k
 | 0=>Sta.refl S _
 | k + 1=>(Nt first S sv k).trans (Sta.em _ _ _ _ _ _ _) 0 Aa Aa
theorem Sa {f:Ex→Nat→Cd→Cd} {xs:List Ex} {c:Nat→Nat} (hf:SA f xs c) (S:Cd):∀ j,j≤xs.length→Sta S (Lj f xs S j) 0 (S.temps + Be c j) (wC xs c j)
 | 0,_=>Sta.refl S _
 | j + 1, h => by
   have h1:=Sa hf S j Aa;have e:=C8 c j;obtain ⟨hc,hs⟩:=hf j Aa;simp only [Lj];split
   ·rename_i hl;exact (h1.trans (hs (1 + j) _) (S.temps + Be c (j + 1)) TK (by rw [h1.temps,e];omega)).mono (Nat.le_refl _) (by simp only [wC];rw [if_pos hl];omega)
   ·rename_i hl;exact h1.mono TK (by simp only [wC];omega)
theorem Js {f:Ex→Nat→Cd→Cd} {xs:List Ex} {c:Nat→Nat} (hf:SA f xs c) (hl:∀ j,j < xs.length→Jl (xs.getD j Ch)=true→∀ r S,Sta S (f (xs.getD j Ch) r S) 0 0 (24 * c j - 3)) (S:Cd) :
 Sta S (NO f xs S) 0 (S.temps + Be c xs.length) (24 * Be c xs.length):=by
 obtain ⟨h1,h2,h3⟩:=Nc hf (D3 xs xs.length) S xs.length (Nat.le_refl _);have hw:=wAC hf xs.length (Nat.le_refl _);have hC:∀ (T:Cd) j,j≤xs.length→Sta T (Lj f xs T j) 0 0 (wC xs c j):=fun T j=>by
  induction j with
  | zero=>intro _;exact Sta.refl T _
  | succ j ih =>
    intro h;simp only [Lj];split
    ·rename_i hq;exact ((ih Aa).trans (hl j Aa hq (1 + j) _) 0 Aa Aa).mono (Nat.le_refl _) (by simp only [wC];rw [if_pos hq];omega)
    ·exact (ih Aa).mono (Nat.le_refl _) (by simp only [wC];omega)
 have g:=(h1.trans (Nt S.temps _ (Fz f xs (D3 xs xs.length) S xs.length).1 (Fz f xs (D3 xs xs.length) S xs.length).1.length) (S.temps + Be c xs.length) (Nat.le_refl _) Aa).trans (hC _ xs.length (Nat.le_refl _)) (S.temps + Be c xs.length) (Nat.le_refl _) Aa;exact g.tp.mono (Nat.le_refl _) Aa
theorem Jp {f:Ex→Nat→Cd→Cd} {xs:List Ex} {c:Nat→Nat} (hf:SA f xs c) (S:Cd):∀ j,j≤xs.length→Sta S (GM f xs S j) j (S.temps + Be c j) (24 * Be c j - 2 * j)∧3 * j≤24 * Be c j
 | 0,_=>⟨Sta.refl S _,Nat.zero_le _⟩
 | j + 1, h => by
   obtain ⟨h1,h2⟩:=Jp hf S j Aa;have e:=C8 c j;have hj:=DE hf j Aa;obtain ⟨hc,hs⟩:=hf j Aa;have g1:=h1.trans (hs 0 (GM f xs S j)) (S.temps + Be c (j + 1)) TK (by rw [h1.temps,e];omega);have g2:=g1.trans (Sta.sv _ 0) (S.temps + Be c (j + 1)) (Nat.le_refl _) (by rw [g1.temps,e];omega);refine ⟨?_,by rw [e];omega⟩;simp only [GM];exact g2.mono (Nat.le_refl _) TK
theorem Jg (first:Nat) (S:Cd):∀ j,Sta S (caB first S j) 0 0 (2 * j)
 | 0=>Sta.refl S _
 | j + 1=>(((Jg first S j).trans (Sta.em _ _ _ _ _ _ _) 0 Aa Aa).trans (Sta.em _ _ _ _ _ _ _) 0 Aa Aa).mono Aa Aa
theorem RK (S:Cd) (n:Nat):Sta S (caC S n) 0 0 1:=by
 have e:=Sta.em S 32 15 0 0 0 0;have hl:(caC S n).words.length=S.words.length + 1:=Aj S 32 15 0 0 0 0;refine ⟨rfl,rfl,rfl,rfl,rfl,rfl,e.most,e.words,e.grow,fun h=>?_⟩;have g:=e.wf h;have hb:=h.cl;refine ⟨g.bl,g.sl,g.kll,?_,fun p hp=>?_,g.bk,g.sk,g.kk,?_⟩
 ·rw [hl];show (S.calls ++ [(S.words.length,n)]).length≤_;simp;omega
 ·rw [hl];rcases List.mem_append.1 (show p ∈ S.calls ++ [(S.words.length,n)] from hp) with hp | hp
  ·have:=h.ck p hp;omega
  ·simp at hp;subst hp;exact Nat.lt_succ_self _
 ·show (S.calls ++ [(S.words.length,n)]).Pairwise _;rw [List.pairwise_append];refine ⟨h.cs,List.pairwise_singleton _ _,fun a ha b hb=>?_⟩;simp at hb;subst hb;exact h.ck a ha
theorem Na (S:Cd) (r:Nat):Sta S (caD S r) 0 0 1:=by
 unfold caD;split
 ·exact (Sta.refl S 0).mono Aa Aa
 ·exact Sta.em _ _ _ _ _ _ _
theorem RG (S:Cd) (first m n reg:Nat):Sta S (caF S first m n reg) 0 0 (7 + 2 * m):=by
 have h1:=((Sta.em S 26 11 0 0 0 0).trans (Sta.em _ 1 10 14 11 0 0) 0 Aa Aa).trans (Jg first _ m) 0 Aa Aa;have h2:=(h1.trans (Sta.em _ 1 14 10 12 0 0) 0 Aa Aa).trans (RK _ n) 0 Aa Aa;have h3:=(((h2.trans (Sta.em _ 26 10 0 0 0 0) 0 Aa Aa).trans (Sta.em _ 2 14 14 10 0 0) 0 Aa Aa).trans (Na _ reg) 0 Aa Aa)
 have g2:=h2.grow;have e1:(A5 (A5 S 26 11 0 0 0 0) 1 10 14 11 0 0).words.length=S.words.length + 2:=by rw [Aj,Aj]
 have g5:=(((Jg first (A5 (A5 S 26 11 0 0 0 0) 1 10 14 11 0 0) m).trans (Sta.em _ 1 14 10 12 0 0) 0 Aa Aa).trans (RK _ n) 0 Aa Aa).grow;have hst:(caC (A5 (caB first (A5 (A5 S 26 11 0 0 0 0) 1 10 14 11 0 0) m) 1 14 10 12 0 0) n).steps=S.steps:=by
  have hB:∀ (T:Cd) j,(caB first T j).steps=T.steps:=fun T j=>by
   induction j with
   | zero=>rfl
   | succ j ih=>exact ih
  exact hB _ m
 unfold caF caG;generalize caC (A5 (caB first (A5 (A5 S 26 11 0 0 0 0) 1 10 14 11 0 0) m) 1 14 10 12 0 0) n=S4 at *
 have g3:=((Sta.em S4 26 10 0 0 0 0).trans (Sta.em _ 2 14 14 10 0 0) 0 Aa Aa).trans (Na _ reg) 0 Aa Aa;have e4:S4.words.length + 2≤(caD (A5 (A5 S4 26 10 0 0 0 0) 2 14 14 10 0 0) reg).words.length:=by
  have:=(Na (A5 (A5 S4 26 10 0 0 0 0) 2 14 14 10 0 0) reg).grow;rw [Aj,Aj] at this;exact this
 have hs5:(caD (A5 (A5 S4 26 10 0 0 0 0) 2 14 14 10 0 0) reg).steps=S4.steps:=by unfold caD;split <;> rfl
 generalize caD (A5 (A5 S4 26 10 0 0 0 0) 2 14 14 10 0 0) reg=S5 at *
 refine ⟨h3.P,h3.base,h3.fn,h3.frames,h3.entries,h3.temps,h3.most,by have:=h3.words;show S5.words.length≤_;omega,h3.grow,fun h=>?_⟩;have g:=h3.wf h;have hsl:=h.sl;refine ⟨g.bl,?_,g.kll,g.cl,g.ck,g.bk,fun p hp=>?_,g.kk,g.cs⟩
 ·show (S5.steps ++ [S.words.length,S4.words.length]).length≤S5.words.length;rw [WC,hs5,hst];omega
 ·show p < S5.words.length;rcases List.mem_append.1 (show p ∈ S5.steps ++ [S.words.length,S4.words.length] from hp) with hp | hp
  ·exact g.sk p hp
  ·simp only [Laq] at hp;rcases hp with rfl | rfl
   ·have:=h3.grow;omega
   ·omega
theorem Adm {f:Ex→Nat→Cd→Cd} {xs:List Ex} {c:Nat→Nat} (hf:SA f xs c) (n reg:Nat) (S:Cd):Sta S (caS f xs n reg S) 0 (S.temps + Be c xs.length) (24 * Be c xs.length + 7):=by
 obtain ⟨h1,h2⟩:=Jp hf S xs.length (Nat.le_refl _);exact (h1.tp.trans (RG _ S.temps xs.length n reg) (S.temps + Be c xs.length) (Nat.le_refl _) Aa).mono (Nat.le_refl _) Aa
theorem Hq (P:List Fu) (i:Nat):∀ (k:Nat) (y:Ex) (c:Nat),RE P i k y c→Jl y=true→∀ r S,Sta S (AO k y r S) 0 0 (24 * c - 3)
 | 0,_,_,h,_,_,_=>by cases h
 | k + 1, .mk op n bs, _, .mk _ _ _ _ c hn hl ha, hq, r, S => by
   simp only [Jl,Ex.op,Bool.or_eq_true] at hq;simp only [AO];replace hq:op=26 ∨ op=27:=hq.imp of_decide_eq_true of_decide_eq_true;rcases hq with rfl | rfl
   ·exact (Sta.cn S r n).mono Aa Aa
   ·exact (Sta.em S _ _ _ _ _ _).mono Aa Aa
theorem Ce (P:List Fu) (i:Nat):∀ (k:Nat) (x:Ex) (c:Nat),RE P i k x c→1≤c∧∀ r S,Sta S (AO k x r S) 0 (S.temps + c) (24 * c - 3)
 | 0,_,_,h=>by cases h
 | k + 1, .mk op n as, _, .mk _ _ _ _ c hn hl ha => by
   refine ⟨by omega,fun r S=>?_⟩;have es:((List.range as.length).map c).sum=Be c as.length:=rfl;rw [es];have hf:SA (AO k) as c:=fun j hj=>by
    rw [List.getD_eq_getElem?_getD,List.getElem?_eq_getElem hj];exact Ce P i k as[j] (c j) (ha j hj)
   have hlv:∀ j,j < as.length→Jl (as.getD j Ch)=true→∀ r S,Sta S (AO k (as.getD j Ch) r S) 0 0 (24 * c j - 3):=fun j hj hq r S=>by
    have hh:=ha j hj;rw [List.getD_eq_getElem?_getD,List.getElem?_eq_getElem hj] at hq ⊢;exact Hq P i k as[j] (c j) hh hq r S
   have hO:=fun S=>Js hf hlv S;have hg:=DE hf as.length (Nat.le_refl _);simp only [AO];split
   ·exact ((hO S).trans (Sta.em _ _ _ _ _ _ _) (S.temps + Be c as.length) (Nat.le_refl _) Aa).mono Aa Aa
   split
   ·exact (Sta.cn S r n).mono Aa Aa
   split
   ·exact (Sta.em S _ _ _ _ _ _).mono Aa Aa
   split
   ·split
    ·exact (Sta.em S _ _ _ _ _ _).mono Aa Aa
    ·exact (((hO S).trans (Sta.bd _ _ _) (S.temps + Be c as.length) (Nat.le_refl _) Aa).trans (Sta.em _ _ _ _ _ _ _) (S.temps + Be c as.length) (Nat.le_refl _) Aa).mono Aa Aa
   split
   ·exact (Adm hf n.toNat r S).mono Aa Aa
   ·have h1:=((hO S).trans (Sta.bd _ 1 (if op=31 then 2045 else 2041)) (S.temps + Be c as.length) (Nat.le_refl _) Aa).trans (Sta.bd _ 2 (if op=31 then 2041 else 2045)) (S.temps + Be c as.length) (Nat.le_refl _) Aa;have t:=fun (T:Cd) op d a b c n=>Sta.em T op d a b c n;exact (((((h1.trans (t _ _ _ _ _ _ _) (S.temps + Be c as.length) (Nat.le_refl _) Aa).trans (t _ _ _ _ _ _ _) (S.temps + Be c as.length) (Nat.le_refl _) Aa).trans (t _ _ _ _ _ _ _) (S.temps + Be c as.length) (Nat.le_refl _) Aa).trans (t _ _ _ _ _ _ _) (S.temps + Be c as.length) (Nat.le_refl _) Aa).trans (t _ _ _ _ _ _ _) (S.temps + Be c as.length) (Nat.le_refl _) Aa).mono Aa Aa
end Mv
