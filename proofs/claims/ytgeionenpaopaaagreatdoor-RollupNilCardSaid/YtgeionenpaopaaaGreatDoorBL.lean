/- A part. -/
import Derived.Test.YtgeionenpaopaaaGreatDoorBK
set_option linter.all false
set_option maxRecDepth 20000
set_option maxHeartbeats 8000000
namespace Mv
open Go
theorem Ij (op:Int) (n:BitVec 64) (as:List Ex):AE (.mk op n as) = .st 3 (.fcons 0 (.int .i64 op) (.fcons 1 (W n) (.fcons 2 (AF as) .fnil))):=by simp only [AE]
theorem NJ (a:Ex):AF [a] = .lst 3 1 (F7 [a]):=KC a []
theorem MN (a:Ex):F7 [a] 0=AE a:=by simp only [F7]
theorem C7 {M:Seat} (ok:OkCo M) (P:List Fu) (i:Nat) (hP:P.length < 1000) (hpar:∀ j,Db P j≤24):∀ (k:Nat) (x:Ex) (c:Nat),RE P i k x c→ExC M P i (AO k) x c
 | 0,_,_,h=>by cases h
 | k + 1, .mk op n as, _, .mk _ _ _ _ c hn hl ha => by
   have hf:SA (AO k) as c:=fun j hj=>by
    rw [List.getD_eq_getElem?_getD,List.getElem?_eq_getElem hj];exact Ce P i k as[j] (c j) (ha j hj)
   have hE:∀ j,j < as.length→ExC M P i (AO k) (as.getD j Ch) (c j):=fun j hj=>by
    rw [List.getD_eq_getElem?_getD,List.getElem?_eq_getElem hj];exact C7 ok P i hP hpar k as[j] (c j) (ha j hj)
   have hlv:∀ j,j < as.length→Jl (as.getD j Ch)=true→∀ r S,Sta S (AO k (as.getD j Ch) r S) 0 0 (24 * c j - 3):=fun j hj hq r S=>by
    have hh:=ha j hj;rw [List.getD_eq_getElem?_getD,List.getElem?_eq_getElem hj] at hq ⊢;exact Hq P i k as[j] (c j) hh hq r S
   intro S reg hb hr;have es:((List.range as.length).map c).sum=Be c as.length:=rfl;rw [es,Nat.add_comm] at hb;have hO:=fun h3=>FL ok P i (AO k) as c hf hE h3 S hb;have hOs:=Js hf hlv S;have hwo:=hb.wo;have hbO:Bd P i (NO (AO k) as S) 1:=hb.sta hOs Aa Aa;have hO1:=hOs.words;have hO2:=hOs.base;have hba:=hb.bas;simp only [AO];rw [Ij];cases hn with
   | ar op n as h1 h2 h3 =>
     have hO:=hO (by rw [h3];unfold Ht;split;omega;split <;> omega);rw [if_pos h2];have e0:(op≤25)=True:=eq_true h2;generalize NO (AO k) as S=T at *
     have h4:=Aq ok T Aa op reg 1 2 3 0 Aa Ab Ab Ab Aa Ab;simp only [HX,F9,Bz,Int.natCast_zero,Ed] at hO h4 ⊢;refine Ac ok.k516 rfl fun x hx=>?_;refine eX ?_;simp only [Ii,Kl,AU,AY,AZ,e0,LZ,seval];refine Ah [0,1,2,3,4,5,6,7] [0,1,4,5,6] [0,1,4,5,6] (hO) (by simp only [Ak,Cy,Ae,AA,seval]) Ab (by ((try simp only [Ak,Cy,Ae,LH,Ai,LY,seval]);first | done | exact True.intro | rfl)) (by ((try simp only [Ak,Cy,Ae,LH,Ai,LY,seval]);first | done | exact True.intro | rfl)) ?_;simp only [Ad,Ae,LH,Ai,AW,AU,AY,AZ,seval];refine Ah [0,136,2,3,4,137,138,7] [0,136] [0,1] (h4) (by simp only [Ak,Ae,AA,seval]) Ab (by ((try simp only [Ak,Ae,LH,Ai,LY,seval]);first | done | exact True.intro | rfl)) (by ((try simp only [Ak,Ae,LH,Ai,LY,seval]);first | done | exact True.intro | rfl)) ?_;simp only [Ad,Ae,LH,Ai,AW,Ed,seval];refine Ay.mkO hx [0,1,2,3,4,5,6,7,216,137,138] [] [0,4,8,9,10] _ _ _ (by simp only [Ak,Ae,AA,seval]) Ab (by (simp only [Dz,Ak,Ae,LH,Ai,seval])) (by ((try simp only [DK,Ak,Ae,LH,Ai,seval]);first | done | exact True.intro | (intros;rfl))) (by ((try simp only [Ak,Ae,LH,Ai,LY,seval]);first | done | exact True.intro | (intros;rfl))) ⟨rfl,rfl,rfl⟩
   | con n =>
     have h4:=OF ok S Aa reg Aa n;have hs:=Sta.cn S reg n;rw [if_neg Ab,if_pos rfl];simp only [HX,F9,Bz,Int.natCast_zero,LCn] at h4 ⊢;refine Ac ok.k516 rfl fun x hx=>?_;refine eX ?_;simp only [Ii,Kl,AU,AY,AZ,LZ,seval];refine Ah [0,1,2,3,4,5,6,7] [0,1] [0,1] (h4) (by simp only [Ak,Ae,AA,seval]) Ab (by ((try simp only [Ak,Ae,LH,Ai,LY,seval]);first | done | exact True.intro | rfl)) (by ((try simp only [Ak,Ae,LH,Ai,LY,seval]);first | done | exact True.intro | rfl)) ?_;simp only [Ad,Ae,LH,Ai,AW,seval];refine Ay.mkO hx [0,1,2,3,4,5,6,7,216,5,6] [] [0,4,8,9,10] _ _ _ (by simp only [Ak,Ae,AA,seval]) Ab (by (simp only [Dz,Ak,Ae,LH,Ai,seval])) (by ((try simp only [DK,Ak,Ae,LH,Ai,seval]);first | done | exact True.intro | (intros;rfl))) (by ((try simp only [Ak,Ae,LH,Ai,LY,seval]);first | done | exact True.intro | (intros;rfl))) ⟨rfl,rfl,rfl⟩
   | loc n h1 h2 =>
     have hlo:=hb.loc;have hni:n.toInt=((n.toNat:Nat):Int):=Adp;have h4:=Aq ok S Aa 27 reg 14 0 0 n.toNat Aa Ab Ab Ab Ab Aa;rw [if_neg Ab,if_neg Ab,if_pos rfl];simp only [HX,F9,Bz,Int.natCast_zero,Ed] at h4 ⊢;refine Ac ok.k516 rfl fun x hx=>?_;refine eX ?_;simp only [Ii,Kl,AU,AY,AZ,hni,LZ,seval];refine Ah [0,1,2,3,4,5,6,7] [0,1] [0,1] (h4) (by simp only [Ak,Ae,AA,seval]) Ab (by ((try simp only [Ak,Ae,LH,Ai,LY,seval]);first | done | exact True.intro | rfl)) (by ((try simp only [Ak,Ae,LH,Ai,LY,seval]);first | done | exact True.intro | rfl)) ?_;simp only [Ad,Ae,LH,Ai,AW,Ed,seval];refine Ay.mkO hx [0,1,2,3,4,5,6,7,296,5,6] [] [0,4,8,9,10] _ _ _ (by simp only [Ak,Ae,AA,seval]) Ab (by (simp only [Dz,Ak,Ae,LH,Ai,seval])) (by ((try simp only [DK,Ak,Ae,LH,Ai,seval]);first | done | exact True.intro | (intros;rfl))) (by ((try simp only [Ak,Ae,LH,Ai,LY,seval]);first | done | exact True.intro | (intros;rfl))) ⟨rfl,rfl,rfl⟩
   | load n a =>
     obtain ⟨op,m,bs⟩:=a;have hO:=hO BF;rw [if_neg Ab,if_neg Ab,if_neg Ab,if_pos rfl];have e1:([Ex.mk op m bs].getD 0 Ch)=Ex.mk op m bs:=rfl;rw [e1];by_cases hc:op=26∧m < 2048#64
     ·have hc1:=hc.1;have hc2:m.toNat < 2048:=hc.2;have hni:m.toInt=((m.toNat:Nat):Int):=Adp;have w1:IntKind.i64.wrap (S.base + ((m.toNat:Nat):Int))=S.base + ((m.toNat:Nat):Int):=Pt;have h4:=Aq ok S Aa 27 reg 12 0 0 (S.base + (m.toNat:Nat)) Aa Ab Ab Ab Ab Aa;rw [if_pos (show (Ex.mk op m bs).op=26∧(Ex.mk op m bs).n < 2048#64 from hc)];show As M 516 _ _ _ (Q3 (.tup .fnil) (F9 (A5 S 27 reg 12 0 0 (S.base + (m.toNat:Nat)))) 11);simp only [HX,F9,Bz,Int.natCast_zero,Ed] at h4 ⊢;rw [NJ];refine Ac ok.k516 rfl fun x hx=>?_;refine eX ?_;simp only [Ii,Kl,MN,Ij,AU,AY,AZ,eq_true hc.1,eq_true hc.2,decide_true,hni,w1,LZ,seval];refine Nb [0,1,2,3,4,5,6,7] [0,1] [0,1] (h4) (by simp only [Ak,Ae,AA,seval]) Ab (by ((try simp only [Ak,Ae,LH,Ai,LY,seval]);first | done | exact True.intro | rfl)) (by ((try simp only [Ak,Ae,LH,Ai,LY,seval]);first | done | exact True.intro | rfl)) ?_;simp only [Ad,Ae,LH,Ai,AW,Ed,seval];refine Ay.mkO hx [0,1,2,3,4,5,6,7,968,5,6] [] [0,4,8,9,10] _ _ _ (by simp only [Ak,Ae,AA,seval]) Ab (by (simp only [Dz,Ak,Ae,LH,Ai,seval])) (by ((try simp only [DK,Ak,Ae,LH,Ai,seval]);first | done | exact True.intro | (intros;rfl))) (by ((try simp only [Ak,Ae,LH,Ai,LY,seval]);first | done | exact True.intro | (intros;rfl))) ⟨rfl,rfl,rfl⟩
     ·rw [if_neg (show ¬ ((Ex.mk op m bs).op=26∧(Ex.mk op m bs).n < 2048#64) from hc)];generalize NO (AO k) [Ex.mk op m bs] S=T at *
      have hwf:=hbO.wf;have hB:=CC ok T Aa Aem 1 Ab 2048 Ab;have h4:=Aq ok (F4 T 1 2048) Aca 27 reg 1 0 0 S.base Aa Ab Ab Ab Ab Aa;simp only [HX,F9,Bz,Int.natCast_zero,Ed,LBs,Ci,hO2] at hO hB h4 ⊢;rw [NJ] at hO ⊢;have hsx:∀ H m' z,Aw H m' z (.lst 3 1 (F7 [Ex.mk op m bs])) (.lst 3 1 (F7 [Ex.mk op m bs]))=True:=fun H m' z=>by rw [← NJ];exact GL H m' z _
      refine Ac ok.k516 rfl fun x hx=>?_;by_cases hc1:op=26
      ·have e2:op=26→decide (m < 2048#64)=false:=fun h1=>decide_eq_false fun h=>hc ⟨h1,h⟩;try have e2:=e2 hc1
       refine eX ?_;simp only [Ii,Kl,MN,Ij,AU,AY,AZ,eq_true hc1,e2,decide_true,decide_false,LZ,seval];refine Ah [0,1,2,3,4,5,6,7] [0,1,4,5,6] [0,1,4,5,6] (hO) (by simp only [Ak,hsx,Ae,AA,seval]) Ab (by ((try simp only [Ak,hsx,Ae,LH,Ai,LY,seval]);first | done | exact True.intro | rfl)) (by ((try simp only [Ak,hsx,Ae,LH,Ai,LY,seval]);first | done | exact True.intro | rfl)) ?_;simp only [Ad,Ae,LH,Ai,AW,seval];refine Ah [0,648,2,3,4,649,650,7] [0,648,649] [0,1,5] (hB) (by simp only [Ak,Ae,AA,seval]) Ab (by ((try simp only [Ak,Ae,LH,Ai,LY,seval]);first | done | exact True.intro | rfl)) (by ((try simp only [Ak,Ae,LH,Ai,LY,seval]);first | done | exact True.intro | rfl)) ?_;simp only [Ad,Ae,LH,Ai,AW,seval];refine Ah [0,680,2,3,4,681,650,7] [0,680] [0,1] (h4) (by simp only [Ak,Ae,AA,seval]) Ab (by ((try simp only [Ak,Ae,LH,Ai,LY,seval]);first | done | exact True.intro | rfl)) (by ((try simp only [Ak,Ae,LH,Ai,LY,seval]);first | done | exact True.intro | rfl)) ?_;simp only [Ad,Ae,LH,Ai,AW,seval];refine Ay.mkO hx [0,1,2,3,4,5,6,7,792,681,650] [] [0,4,8,9,10] _ _ _ (by simp only [Ak,Ae,AA,seval]) Ab (by (simp only [Dz,Ak,Ae,LH,Ai,seval])) (by ((try simp only [DK,Ak,Ae,LH,Ai,seval]);first | done | exact True.intro | (intros;rfl))) (by ((try simp only [Ak,Ae,LH,Ai,LY,seval]);first | done | exact True.intro | (intros;rfl))) ⟨rfl,rfl,rfl⟩
      ·have e2:op=26→decide (m < 2048#64)=false:=fun h1=>decide_eq_false fun h=>hc ⟨h1,h⟩;try have e2:=e2 hc1
       refine eX ?_;simp only [Ii,Kl,MN,Ij,AU,AY,AZ,eq_false hc1,decide_true,decide_false,LZ,seval];refine Ah [0,1,2,3,4,5,6,7] [0,1,4,5,6] [0,1,4,5,6] (hO) (by simp only [Ak,hsx,Ae,AA,seval]) Ab (by ((try simp only [Ak,hsx,Ae,LH,Ai,LY,seval]);first | done | exact True.intro | rfl)) (by ((try simp only [Ak,hsx,Ae,LH,Ai,LY,seval]);first | done | exact True.intro | rfl)) ?_;simp only [Ad,Ae,LH,Ai,AW,seval];refine Ah [0,648,2,3,4,649,650,7] [0,648,649] [0,1,5] (hB) (by simp only [Ak,Ae,AA,seval]) Ab (by ((try simp only [Ak,Ae,LH,Ai,LY,seval]);first | done | exact True.intro | rfl)) (by ((try simp only [Ak,Ae,LH,Ai,LY,seval]);first | done | exact True.intro | rfl)) ?_;simp only [Ad,Ae,LH,Ai,AW,seval];refine Ah [0,680,2,3,4,681,650,7] [0,680] [0,1] (h4) (by simp only [Ak,Ae,AA,seval]) Ab (by ((try simp only [Ak,Ae,LH,Ai,LY,seval]);first | done | exact True.intro | rfl)) (by ((try simp only [Ak,Ae,LH,Ai,LY,seval]);first | done | exact True.intro | rfl)) ?_;simp only [Ad,Ae,LH,Ai,AW,seval];refine Ay.mkO hx [0,1,2,3,4,5,6,7,792,681,650] [] [0,4,8,9,10] _ _ _ (by simp only [Ak,Ae,AA,seval]) Ab (by (simp only [Dz,Ak,Ae,LH,Ai,seval])) (by ((try simp only [DK,Ak,Ae,LH,Ai,seval]);first | done | exact True.intro | (intros;rfl))) (by ((try simp only [Ak,Ae,LH,Ai,LY,seval]);first | done | exact True.intro | (intros;rfl))) ⟨rfl,rfl,rfl⟩
   | call n as h1 h2 h3 =>
     have hp:=hpar n.toNat;have hC:=QL ok P i (AO k) as c hf hE n Aa Aa reg hr S hb;rw [if_neg Ab,if_neg Ab,if_neg Ab,if_neg Ab,if_pos rfl];generalize caS (AO k) as n.toNat reg S=T at *
     rw [Ij] at hC;simp only [HX,F9,Bz,Int.natCast_zero] at hC ⊢;refine Ac ok.k516 rfl fun x hx=>?_;refine eX ?_;simp only [Ii,Kl,AU,AY,AZ,LZ,seval];refine Ah [0,1,2,3,4,5,6,7] [0,1,4,5,6] [0,1,4,5,6] (hC) (by simp only [Ak,Cy,GL,Ae,AA,seval]) Ab (by ((try simp only [Ak,Cy,GL,Ae,LH,Ai,LY,seval]);first | done | exact True.intro | rfl)) (by ((try simp only [Ak,Cy,GL,Ae,LH,Ai,LY,seval]);first | done | exact True.intro | rfl)) ?_;simp only [Ad,Ae,LH,Ai,AW,seval];refine Ay.mkO hx [0,1,2,3,4,5,6,7,712,713,714] [] [0,4,8,9,10] _ _ _ (by simp only [Ak,Ae,AA,seval]) Ab (by (simp only [Dz,Ak,Ae,LH,Ai,seval])) (by ((try simp only [DK,Ak,Ae,LH,Ai,seval]);first | done | exact True.intro | (intros;rfl))) (by ((try simp only [Ak,Ae,LH,Ai,LY,seval]);first | done | exact True.intro | (intros;rfl))) ⟨rfl,rfl,rfl⟩
   | hash n a b =>
     have hO:=hO BF;rw [if_neg Ab,if_neg Ab,if_neg Ab,if_neg Ab,if_neg Ab];simp only [show ((30:Int)=31)=False by decide,if_false];generalize NO (AO k) [a,b] S=T at *
     have hwf:=hbO.wf;have hB1:=CC ok T Aa Aem 1 Ab 2041 Ab;have hB2:=CC ok (F4 T 1 2041) Aca (by rw [MU,Ew];have:=hwf.bl;omega) 2 Ab 2045 Ab;have hl2:(F4 (F4 T 1 2041) 2 2045).words.length=T.words.length + 6:=by rw [G5,G5]
     have k1:=Aq ok (F4 (F4 T 1 2041) 2 2045) Aa 26 10 0 0 0 S.base Ab Ab Ab Ab Ab Aa;generalize hU0:F4 (F4 T 1 2041) 2 2045=U0 at *
     have k2:=Aq ok (A5 U0 26 10 0 0 0 S.base) U4 1 1 1 10 0 0 Ab Ab Ab Ab Ab Ab;have k3:=Aq ok (A5 (A5 U0 26 10 0 0 0 S.base) 1 1 1 10 0 0) (by rw [Aj,Aj];omega) 1 2 2 10 0 0 Ab Ab Ab Ab Ab Ab;have k4:=Aq ok (A5 (A5 (A5 U0 26 10 0 0 0 S.base) 1 1 1 10 0 0) 1 2 2 10 0 0) (by rw [Aj,Aj,Aj];omega) 34 0 1 2 0 0 Ab Ab Ab Ab Ab Ab;have k5:=Aq ok (A5 (A5 (A5 (A5 U0 26 10 0 0 0 S.base) 1 1 1 10 0 0) 1 2 2 10 0 0) 34 0 1 2 0 0) (by rw [Aj,Aj,Aj,Aj];omega) 26 reg 0 0 0 0 Aa Ab Ab Ab Ab Ab;subst hU0;simp only [HX,F9,Bz,Int.natCast_zero,Ed,LBs,Ci,hO2] at hO hB1 hB2 k1 k2 k3 k4 k5 ⊢;have w1:IntKind.i64.wrap 2040=2040:=rfl;have w2:IntKind.i64.wrap 2041=2041:=rfl;have w3:IntKind.i64.wrap 2044=2044:=rfl;have w4:IntKind.i64.wrap 2045=2045:=rfl;refine Ac ok.k516 rfl fun x hx=>?_;refine eX ?_;simp only [Ii,Kl,AU,AY,AZ,decide_true,decide_false,LZ,seval];refine Ah [0,1,2,3,4,5,6,7] [0,1,4,5,6] [0,1,4,5,6] (hO) (by simp only [Ak,GL,Cy,Ae,AA,seval]) Ab (by ((try simp only [Ak,GL,Cy,Ae,LH,Ai,LY,seval]);first | done | exact True.intro | rfl)) (by ((try simp only [Ak,GL,Cy,Ae,LH,Ai,LY,seval]);first | done | exact True.intro | rfl)) ?_;simp only [Ad,Ae,LH,Ai,AW,w1,w2,w3,w4,AU,AY,AZ,seval];refine Ah [0,712,2,3,4,713,714,7] [0,712,713] [0,1,5] (hB1) (by simp only [Ak,Ae,AA,seval]) Ab (by ((try simp only [Ak,Ae,LH,Ai,LY,seval]);first | done | exact True.intro | rfl)) (by ((try simp only [Ak,Ae,LH,Ai,LY,seval]);first | done | exact True.intro | rfl)) ?_;simp only [Ad,Ae,LH,Ai,AW,w1,w2,w3,w4,seval];refine Ah [0,888,2,3,4,889,714,7] [0,888,889] [0,1,5] (hB2) (by simp only [Ak,Ae,AA,seval]) Ab (by ((try simp only [Ak,Ae,LH,Ai,LY,seval]);first | done | exact True.intro | rfl)) (by ((try simp only [Ak,Ae,LH,Ai,LY,seval]);first | done | exact True.intro | rfl)) ?_;simp only [Ad,Ae,LH,Ai,AW,seval];refine Ah [0,968,2,3,4,969,714,7] [0,968] [0,1] (k1) (by simp only [Ak,Ae,AA,seval]) Ab (by ((try simp only [Ak,Ae,LH,Ai,LY,seval]);first | done | exact True.intro | rfl)) (by ((try simp only [Ak,Ae,LH,Ai,LY,seval]);first | done | exact True.intro | rfl)) ?_;simp only [Ad,Ae,LH,Ai,AW,seval];refine Ah [0,1064,2,3,4,969,714,7] [0,1064] [0,1] (k2) (by simp only [Ak,Ae,AA,seval]) Ab (by ((try simp only [Ak,Ae,LH,Ai,LY,seval]);first | done | exact True.intro | rfl)) (by ((try simp only [Ak,Ae,LH,Ai,LY,seval]);first | done | exact True.intro | rfl)) ?_;simp only [Ad,Ae,LH,Ai,AW,seval];refine Ah [0,1096,2,3,4,969,714,7] [0,1096] [0,1] (k3) (by simp only [Ak,Ae,AA,seval]) Ab (by ((try simp only [Ak,Ae,LH,Ai,LY,seval]);first | done | exact True.intro | rfl)) (by ((try simp only [Ak,Ae,LH,Ai,LY,seval]);first | done | exact True.intro | rfl)) ?_;simp only [Ad,Ae,LH,Ai,AW,seval];refine Ah [0,1128,2,3,4,969,714,7] [0,1128] [0,1] (k4) (by simp only [Ak,Ae,AA,seval]) Ab (by ((try simp only [Ak,Ae,LH,Ai,LY,seval]);first | done | exact True.intro | rfl)) (by ((try simp only [Ak,Ae,LH,Ai,LY,seval]);first | done | exact True.intro | rfl)) ?_;simp only [Ad,Ae,LH,Ai,AW,seval];refine Ah [0,1176,2,3,4,969,714,7] [0,1176] [0,1] (k5) (by simp only [Ak,Ae,AA,seval]) Ab (by ((try simp only [Ak,Ae,LH,Ai,LY,seval]);first | done | exact True.intro | rfl)) (by ((try simp only [Ak,Ae,LH,Ai,LY,seval]);first | done | exact True.intro | rfl)) ?_;simp only [Ad,Ae,LH,Ai,AW,seval];refine Ay.mkO hx [0,1,2,3,4,5,6,7,1224,969,714] [] [0,4,8,9,10] _ _ _ (by simp only [Ak,Ae,AA,seval]) Ab (by (simp only [Dz,Ak,Ae,LH,Ai,seval])) (by ((try simp only [DK,Ak,Ae,LH,Ai,seval]);first | done | exact True.intro | (intros;rfl))) (by ((try simp only [Ak,Ae,LH,Ai,LY,seval]);first | done | exact True.intro | (intros;rfl))) ⟨rfl,rfl,rfl⟩
   | pre n a b =>
     have hO:=hO BF;rw [if_neg Ab,if_neg Ab,if_neg Ab,if_neg Ab,if_neg Ab];simp only [if_true];generalize NO (AO k) [a,b] S=T at *
     have hwf:=hbO.wf;have hB1:=CC ok T Aa Aem 1 Ab 2045 Ab;have hB2:=CC ok (F4 T 1 2045) Aca (by rw [MU,Ew];have:=hwf.bl;omega) 2 Ab 2041 Ab;have hl2:(F4 (F4 T 1 2045) 2 2041).words.length=T.words.length + 6:=by rw [G5,G5]
     have k1:=Aq ok (F4 (F4 T 1 2045) 2 2041) Aa 26 10 0 0 0 S.base Ab Ab Ab Ab Ab Aa;generalize hU0:F4 (F4 T 1 2045) 2 2041=U0 at *
     have k2:=Aq ok (A5 U0 26 10 0 0 0 S.base) U4 1 1 1 10 0 0 Ab Ab Ab Ab Ab Ab;have k3:=Aq ok (A5 (A5 U0 26 10 0 0 0 S.base) 1 1 1 10 0 0) (by rw [Aj,Aj];omega) 1 2 2 10 0 0 Ab Ab Ab Ab Ab Ab;have k4:=Aq ok (A5 (A5 (A5 U0 26 10 0 0 0 S.base) 1 1 1 10 0 0) 1 2 2 10 0 0) (by rw [Aj,Aj,Aj];omega) 35 0 1 2 0 0 Ab Ab Ab Ab Ab Ab;have k5:=Aq ok (A5 (A5 (A5 (A5 U0 26 10 0 0 0 S.base) 1 1 1 10 0 0) 1 2 2 10 0 0) 35 0 1 2 0 0) (by rw [Aj,Aj,Aj,Aj];omega) 26 reg 0 0 0 0 Aa Ab Ab Ab Ab Ab;subst hU0;simp only [HX,F9,Bz,Int.natCast_zero,Ed,LBs,Ci,hO2] at hO hB1 hB2 k1 k2 k3 k4 k5 ⊢;have w1:IntKind.i64.wrap 2040=2040:=rfl;have w2:IntKind.i64.wrap 2041=2041:=rfl;have w3:IntKind.i64.wrap 2044=2044:=rfl;have w4:IntKind.i64.wrap 2045=2045:=rfl;refine Ac ok.k516 rfl fun x hx=>?_;refine eX ?_;simp only [Ii,Kl,AU,AY,AZ,decide_true,decide_false,LZ,seval];refine Ah [0,1,2,3,4,5,6,7] [0,1,4,5,6] [0,1,4,5,6] (hO) (by simp only [Ak,GL,Cy,Ae,AA,seval]) Ab (by ((try simp only [Ak,GL,Cy,Ae,LH,Ai,LY,seval]);first | done | exact True.intro | rfl)) (by ((try simp only [Ak,GL,Cy,Ae,LH,Ai,LY,seval]);first | done | exact True.intro | rfl)) ?_;simp only [Ad,Ae,LH,Ai,AW,w1,w2,w3,w4,AU,AY,AZ,seval];refine Ah [0,712,2,3,4,713,714,7] [0,712,713] [0,1,5] (hB1) (by simp only [Ak,Ae,AA,seval]) Ab (by ((try simp only [Ak,Ae,LH,Ai,LY,seval]);first | done | exact True.intro | rfl)) (by ((try simp only [Ak,Ae,LH,Ai,LY,seval]);first | done | exact True.intro | rfl)) ?_;simp only [Ad,Ae,LH,Ai,AW,w1,w2,w3,w4,seval];refine Ah [0,936,2,3,4,937,714,7] [0,936,937] [0,1,5] (hB2) (by simp only [Ak,Ae,AA,seval]) Ab (by ((try simp only [Ak,Ae,LH,Ai,LY,seval]);first | done | exact True.intro | rfl)) (by ((try simp only [Ak,Ae,LH,Ai,LY,seval]);first | done | exact True.intro | rfl)) ?_;simp only [Ad,Ae,LH,Ai,AW,seval];refine Ah [0,1016,2,3,4,1017,714,7] [0,1016] [0,1] (k1) (by simp only [Ak,Ae,AA,seval]) Ab (by ((try simp only [Ak,Ae,LH,Ai,LY,seval]);first | done | exact True.intro | rfl)) (by ((try simp only [Ak,Ae,LH,Ai,LY,seval]);first | done | exact True.intro | rfl)) ?_;simp only [Ad,Ae,LH,Ai,AW,seval];refine Ah [0,1112,2,3,4,1017,714,7] [0,1112] [0,1] (k2) (by simp only [Ak,Ae,AA,seval]) Ab (by ((try simp only [Ak,Ae,LH,Ai,LY,seval]);first | done | exact True.intro | rfl)) (by ((try simp only [Ak,Ae,LH,Ai,LY,seval]);first | done | exact True.intro | rfl)) ?_;simp only [Ad,Ae,LH,Ai,AW,seval];refine Ah [0,1144,2,3,4,1017,714,7] [0,1144] [0,1] (k3) (by simp only [Ak,Ae,AA,seval]) Ab (by ((try simp only [Ak,Ae,LH,Ai,LY,seval]);first | done | exact True.intro | rfl)) (by ((try simp only [Ak,Ae,LH,Ai,LY,seval]);first | done | exact True.intro | rfl)) ?_;simp only [Ad,Ae,LH,Ai,AW,seval];refine Ah [0,1176,2,3,4,1017,714,7] [0,1176] [0,1] (k4) (by simp only [Ak,Ae,AA,seval]) Ab (by ((try simp only [Ak,Ae,LH,Ai,LY,seval]);first | done | exact True.intro | rfl)) (by ((try simp only [Ak,Ae,LH,Ai,LY,seval]);first | done | exact True.intro | rfl)) ?_;simp only [Ad,Ae,LH,Ai,AW,seval];refine Ah [0,1224,2,3,4,1017,714,7] [0,1224] [0,1] (k5) (by simp only [Ak,Ae,AA,seval]) Ab (by ((try simp only [Ak,Ae,LH,Ai,LY,seval]);first | done | exact True.intro | rfl)) (by ((try simp only [Ak,Ae,LH,Ai,LY,seval]);first | done | exact True.intro | rfl)) ?_;simp only [Ad,Ae,LH,Ai,AW,seval];refine Ay.mkO hx [0,1,2,3,4,5,6,7,1272,1017,714] [] [0,4,8,9,10] _ _ _ (by simp only [Ak,Ae,AA,seval]) Ab (by (simp only [Dz,Ak,Ae,LH,Ai,seval])) (by ((try simp only [DK,Ak,Ae,LH,Ai,seval]);first | done | exact True.intro | (intros;rfl))) (by ((try simp only [Ak,Ae,LH,Ai,LY,seval]);first | done | exact True.intro | (intros;rfl))) ⟨rfl,rfl,rfl⟩
def PD:IrSt:=.mk 0 0 Ch Ch [] []
def KY (S:Cd):Cd:={ A5 S 29 0 0 0 0 0 with backs:=S.backs ++ [S.words.length] }
def Ga (S:Cd) (at':Nat):Cd:=Ei S at' S.words.length
def KQ (bl:List IrSt→Cd→Cd):IrSt→Cd→Cd
 | .mk kind n a b body els, S =>
   if kind=1 then A5 (AO 8 a 0 S) 28 0 14 0 0 n
   else if kind=2 then A5 (F4 (NO (AO 8) [a,b] S) 1 2048) 28 0 1 2 0 S.base
   else if kind=3 then
    Ga (bl els (Ga (A5 (bl body (A5 (AO 8 a 0 S) 30 0 0 0 0 0)) 29 0 0 0 0 0) (AO 8 a 0 S).words.length)) (bl body (A5 (AO 8 a 0 S) 30 0 0 0 0 0)).words.length
   else if kind=4 then
    Ga (A5 (bl body (A5 (AO 8 a 0 S) 30 0 0 0 0 0)) 29 0 0 0 0 S.words.length) (AO 8 a 0 S).words.length
   else if kind=5 then KY (AO 8 a 0 S)
   else if kind=6 then AO 8 a 0 S
   else A5 (AO 8 a 0 S) 0 0 0 0 0 0
def Ll (f:IrSt→Cd→Cd) (ss:List IrSt) (S:Cd):Nat→Cd
 | 0=>S
 | j + 1=>f (ss.getD j PD) (Ll f ss S j)
def P6:Nat→IrSt→Cd→Cd
 | 0=>KQ fun _ S=>S
 | k + 1=>KQ fun ss S=>Ll (P6 k) ss S ss.length
theorem Sta.pt (S:Cd) (a n:Nat):Sta S (Ei S a n) 0 0 0:=by
 have hl:=Hl S a n;refine ⟨rfl,rfl,rfl,rfl,rfl,rfl,Nat.le_max_left _ _,by omega,by omega,fun h=>?_⟩;have h1:=h.bl;have h2:=h.sl;have h3:=h.kll;have h4:=h.cl;refine ⟨?_,?_,?_,?_,fun p hp=>?_,fun p hp=>?_,fun p hp=>?_,fun p hp=>?_,h.cs⟩ <;> rw [hl]
 ·exact h1
 ·exact h2
 ·exact h3
 ·exact h4
 ·exact h.ck p hp
 ·exact h.bk p hp
 ·exact h.sk p hp
 ·exact h.kk p hp
theorem Sta.he (S:Cd) (a:Nat):Sta S (Ga S a) 0 0 0:=Sta.pt S a _
theorem Sta.bk (S:Cd):Sta S (KY S) 0 0 1:=by
 have e:=Sta.em S 29 0 0 0 0 0;have hl:(KY S).words.length=S.words.length + 1:=Aj S 29 0 0 0 0 0;refine ⟨rfl,rfl,rfl,rfl,rfl,rfl,e.most,e.words,e.grow,fun h=>?_⟩;have g:=e.wf h;have hb:=h.kll;refine ⟨g.bl,g.sl,?_,g.cl,g.ck,g.bk,g.sk,fun p hp=>?_,g.cs⟩
 ·rw [hl];show (S.backs ++ [S.words.length]).length≤_;rw [Ew];omega
 ·rw [hl];rcases List.mem_append.1 (show p ∈ S.backs ++ [S.words.length] from hp) with hp | hp
  ·have:=h.kk p hp;omega
  ·simp at hp;omega
def BOK (bl:List IrSt→Cd→Cd) (ss:List IrSt) (c:Nat):Prop:=∀ S,Sta S (bl ss S) 0 (S.temps + c) (24 * c)
theorem Gk {f:IrSt→Cd→Cd} {ss:List IrSt} {c:Nat→Nat} (hf:∀ j,j < ss.length→∀ S,Sta S (f (ss.getD j PD) S) 0 (S.temps + c j) (24 * c j)) (S:Cd):∀ j,j≤ss.length→Sta S (Ll f ss S j) 0 (S.temps + Be c j) (24 * Be c j)
 | 0,_=>Sta.refl S _
 | j + 1, h => by
   have h1:=Gk hf S j Aa;have e:=C8 c j;have h2:=hf j Aa (Ll f ss S j);exact (h1.trans h2 (S.temps + Be c (j + 1)) Aa (by rw [h1.temps,e];omega)).mono (Nat.le_refl _) Aa
theorem SH (P:List Fu) (i k:Nat) (a b:Ex) (ca cb:Nat) (ha:RE P i k a ca) (hb:RE P i k b cb):SA (AO k) [a,b] (fun j=>if j=0 then ca else cb):=fun j hj=>by
 have hj2:j=0 ∨ j=1:=by have:j < 2:=hj;omega
 rcases hj2 with rfl | rfl
 ·exact Ce P i k a ca ha
 ·exact Ce P i k b cb hb
theorem OZ (P:List Fu) (i k:Nat) (a b:Ex) (ca cb:Nat) (ha:RE P i k a ca) (hb:RE P i k b cb):∀ j,j < [a,b].length→Jl ([a,b].getD j Ch)=true→∀ r S,Sta S (AO k ([a,b].getD j Ch) r S) 0 0 (24 * (if j=0 then ca else cb) - 3):=fun j hj=>by
 have hj2:j=0 ∨ j=1:=by have:j < 2:=hj;omega
 rcases hj2 with rfl | rfl
 ·exact Hq P i k a ca ha
 ·exact Hq P i k b cb hb
theorem Sj (ca cb:Nat):Be (fun j=>if j=0 then ca else cb) 2=ca + cb:=by
 rw [C8,C8];simp [Be]
theorem Sr (P:List Fu) (i l:Nat) (bl:List IrSt→Cd→Cd) (hbl:∀ ss c,RB P i l ss c→BOK bl ss c):∀ (s:IrSt) (c:Nat),RgS P i l s c→∀ S,Sta S (KQ bl s S) 0 (S.temps + c) (24 * c):=by
 intro s c h S;cases h with
 | set _ n a b bo el ca h0 h1 ha =>
   obtain ⟨g1,g2⟩:=Ce P i 8 a ca ha;simp only [KQ,if_true];exact ((g2 0 S).trans (Sta.em _ _ _ _ _ _ _) (S.temps + (1 + ca)) Aa Aa).mono (Nat.le_refl _) Aa
 | store _ n a b bo el ca cb ha hb =>
   have g:=Js (SH P i 8 a b ca cb ha hb) (OZ P i 8 a b ca cb ha hb) S;have e:Be (fun j=>if j=0 then ca else cb) [a,b].length=ca + cb:=Sj ca cb;rw [e] at g;simp only [KQ,show ((2:Int)=1)=False by decide,Dh];exact ((g.trans (Sta.bd _ 1 2048) (S.temps + (1 + ca + cb)) Aa Aa).trans (Sta.em _ _ _ _ _ _ _) (S.temps + (1 + ca + cb)) Aa Aa).mono (Nat.le_refl _) Aa
 | branch _ n a b bo el ca cb ce ha hb he =>
   obtain ⟨g1,g2⟩:=Ce P i 8 a ca ha;simp only [KQ,show ((3:Int)=1)=False by decide,show ((3:Int)=2)=False by decide,Dh];have k1:=(g2 0 S).trans (Sta.em _ 30 0 0 0 0 0) (S.temps + (1 + ca + cb + ce)) Aa Aa;have t1:=k1.temps;have k2:=k1.trans (hbl bo cb hb _) (S.temps + (1 + ca + cb + ce)) Aa (by rw [t1];omega);have k3:=(k2.trans (Sta.em _ 29 0 0 0 0 0) (S.temps + (1 + ca + cb + ce)) Aa Aa).trans (Sta.he _ (AO 8 a 0 S).words.length) (S.temps + (1 + ca + cb + ce)) Aa Aa;have t3:=k3.temps;have k4:=(k3.trans (hbl el ce he _) (S.temps + (1 + ca + cb + ce)) Aa (by rw [t3];omega)).trans (Sta.he _ (bl bo (A5 (AO 8 a 0 S) 30 0 0 0 0 0)).words.length) (S.temps + (1 + ca + cb + ce)) Aa Aa;exact k4.mono (Nat.le_refl _) Aa
 | loop _ n a b bo el ca cb ha hb =>
   obtain ⟨g1,g2⟩:=Ce P i 8 a ca ha;simp only [KQ,show ((4:Int)=1)=False by decide,show ((4:Int)=2)=False by decide,show ((4:Int)=3)=False by decide,Dh];have k1:=(g2 0 S).trans (Sta.em _ 30 0 0 0 0 0) (S.temps + (1 + ca + cb)) Aa Aa;have t1:=k1.temps;have k2:=k1.trans (hbl bo cb hb _) (S.temps + (1 + ca + cb)) Aa (by rw [t1];omega);have k3:=(k2.trans (Sta.em _ 29 0 0 0 0 S.words.length) (S.temps + (1 + ca + cb)) Aa Aa).trans (Sta.he _ (AO 8 a 0 S).words.length) (S.temps + (1 + ca + cb)) Aa Aa;exact k3.mono (Nat.le_refl _) Aa
 | other _ k n a b bo el ca h5 h7 ha =>
   obtain ⟨g1,g2⟩:=Ce P i 8 a ca ha;simp only [KQ];rw [if_neg Aa,if_neg Aa,if_neg Aa,if_neg Aa];split
   ·exact ((g2 0 S).trans (Sta.bk _) (S.temps + (1 + ca)) Aa Aa).mono (Nat.le_refl _) Aa
   split
   ·exact (g2 0 S).mono Aa Aa
   ·exact ((g2 0 S).trans (Sta.em _ _ _ _ _ _ _) (S.temps + (1 + ca)) Aa Aa).mono (Nat.le_refl _) Aa
theorem HF (P:List Fu) (i:Nat):∀ (k:Nat) (s:IrSt) (c:Nat),RgS P i k s c→∀ S,Sta S (P6 k s S) 0 (S.temps + c) (24 * c)
 | 0 => Sr P i 0 _ fun ss c h => by
   cases h with
   | nil=>exact fun S=>Sta.refl S _
 | k + 1 => Sr P i (k + 1) _ fun ss c h S => by
   cases h with
   | mk _ _ c hl h =>
     exact Gk (c:=c) (fun j hj S=>by
      rw [List.getD_eq_getElem?_getD,List.getElem?_eq_getElem hj]
      exact HF P i k ss[j] (c j) (h j hj) S) S ss.length (Nat.le_refl _)
theorem Ma {f:Ex→Nat→Cd→Cd} (hf:∀ x r S,(f x r S).backs=S.backs) (xs:List Ex) (last:Int) (S:Cd):∀ j,(Fz f xs last S j).2.backs=S.backs
 | 0=>rfl
 | j + 1 => by
   have ih:=Ma hf xs last S j;simp only [Fz];split
   ·exact ih
   split
   ·exact (hf _ _ _).trans ih
   ·exact (hf _ _ _).trans ih
theorem LQ (first:Nat) (S:Cd) (sv:List Nat):∀ k,(QN first S sv k).backs=S.backs
 | 0=>rfl
 | k + 1=>LQ first S sv k
theorem Mz {f:Ex→Nat→Cd→Cd} (hf:∀ x r S,(f x r S).backs=S.backs) (xs:List Ex) (S:Cd):∀ j,(Lj f xs S j).backs=S.backs
 | 0=>rfl
 | j + 1 => by
   have ih:=Mz hf xs S j;simp only [Lj];split
   ·exact (hf _ _ _).trans ih
   ·exact ih
theorem Mh {f:Ex→Nat→Cd→Cd} (hf:∀ x r S,(f x r S).backs=S.backs) (xs:List Ex) (S:Cd):(NO f xs S).backs=S.backs :=
 (Mz hf xs _ _).trans ((LQ _ _ _ _).trans (Ma hf xs _ S _))
theorem LJ {f:Ex→Nat→Cd→Cd} (hf:∀ x r S,(f x r S).backs=S.backs) (xs:List Ex) (S:Cd):∀ j,(GM f xs S j).backs=S.backs
 | 0=>rfl
 | j + 1=>(hf _ _ _).trans (LJ hf xs S j)
theorem M1 (first:Nat) (S:Cd):∀ j,(caB first S j).backs=S.backs
 | 0=>rfl
 | j + 1=>M1 first S j
theorem Ts (S:Cd) (first m n reg:Nat):(caF S first m n reg).backs=S.backs:=by
 show (caD _ reg).backs=_;unfold caD;split <;> exact M1 first _ m
theorem CF:∀ (k:Nat) (x:Ex) (r:Nat) (S:Cd),(AO k x r S).backs=S.backs
 | 0,_,_,_=>rfl
 | k + 1, .mk op n as, r, S => by
   have hO:=Mh (CF k) as S;simp only [AO];split
   ·rw [DL];exact hO
   split
   ·exact Mr S r n
   split
   ·rw [DL]
   split
   ·split
    ·rw [DL]
    ·rw [DL,Ia];exact hO
   split
   ·exact (Ts _ _ _ _ _).trans (LJ (CF k) as S _)
   ·simp only [DL,Ia];exact hO
theorem Aos (S:Cd) (a:Nat):(Ga S a).P=S.P:=rfl
theorem ZC (S:Cd) (a:Nat):(Ga S a).base=S.base:=rfl
theorem Aic (S:Cd) (a:Nat):(Ga S a).fn=S.fn:=rfl
theorem QE (S:Cd) (a:Nat):(Ga S a).frames=S.frames:=rfl
theorem Ot (S:Cd) (a:Nat):(Ga S a).entries=S.entries:=rfl
theorem Tj (S:Cd) (a:Nat):(Ga S a).calls=S.calls:=rfl
theorem Abw (S:Cd) (a:Nat):(Ga S a).bad=S.bad:=rfl
theorem TE (S:Cd) (a:Nat):(Ga S a).steps=S.steps:=rfl
theorem Un (S:Cd) (a:Nat):(Ga S a).backs=S.backs:=rfl
theorem UR (S:Cd) (a:Nat):(Ga S a).temps=S.temps:=rfl
theorem VB (S:Cd) (a:Nat):(Ga S a).most=S.most:=rfl
theorem Jm (S:Cd) (a:Nat):(Ga S a).words.length=S.words.length:=Hl S a _
def LHe:=(De @Aos @ZC @Aic @QE @Ot @Tj @Abw @TE @Un @UR @VB @Jm)
theorem Apm (S:Cd):(KY S).P=S.P:=rfl
theorem Yk (S:Cd):(KY S).base=S.base:=rfl
theorem Alc (S:Cd):(KY S).fn=S.fn:=rfl
theorem Qx (S:Cd):(KY S).frames=S.frames:=rfl
theorem P2 (S:Cd):(KY S).entries=S.entries:=rfl
theorem Ua (S:Cd):(KY S).calls=S.calls:=rfl
theorem Abq (S:Cd):(KY S).bad=S.bad:=rfl
theorem UC (S:Cd):(KY S).steps=S.steps:=rfl
theorem Ug (S:Cd):(KY S).temps=S.temps:=rfl
theorem Wp (S:Cd):(KY S).most=S.most:=rfl
theorem UU (S:Cd):(KY S).backs=S.backs ++ [S.words.length]:=rfl
theorem M0 (S:Cd):(KY S).words=(A5 S 29 0 0 0 0 0).words:=rfl
def LBk:=(De @Apm @Yk @Alc @Qx @P2 @Ua @Abq @UC @UU @Ug @Wp @M0)
end Mv
