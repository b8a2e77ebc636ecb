/- A part. -/
import Derived.Test.YtgeionenpaopaaaGreatDoorBJ
set_option linter.all false
set_option maxRecDepth 20000
set_option maxHeartbeats 8000000
namespace Mv
open Go
def HX (S:Cd):Hp:=(0,Bz 1 2 3 5 6 7 S) :: (1,EN S.words) :: (4,LB S.calls) :: D8 S.bad.length 5 (BO S.bad) (D8 S.steps.length 6 (BO S.steps) [])
def F9 (S:Cd):Hp:=(0,Bz 8 2 3 9 10 7 S) :: (8,EN S.words) :: (4,LB S.calls) :: D8 S.bad.length 9 (BO S.bad) (D8 S.steps.length 10 (BO S.steps) [])
structure Bd (P:List Fu) (i:Nat) (S:Cd) (c:Nat):Prop where
 eP:S.P=P
 efn:S.fn=i
 lt:i < P.length
 loc:0≤Bi P i∧Bi P i≤24
 bas:0≤S.base∧S.base < 1000000
 wf:WFc S
 wo:S.words.length + 24 * c < 800000
 te:S.temps + c < 800000
theorem Bd.sta {P:List Fu} {i:Nat} {S T:Cd} {c k m w:Nat} (h:Bd P i S c) (s:Sta S T k m w) {d:Nat} (hw:w + 24 * d≤24 * c) (ht:k + d≤c):Bd P i T d :=
 ⟨s.P.trans h.eP,s.fn.trans h.efn,h.lt,h.loc,by rw [s.base];exact h.bas,s.wf h.wf,by have:=s.words;have:=h.wo;omega,by have:=s.temps;have:=h.te;omega⟩
def ExC (M:Seat) (P:List Fu) (i:Nat) (f:Ex→Nat→Cd→Cd) (x:Ex) (c:Nat):Prop:=∀ (S:Cd) (reg:Nat),Bd P i S c→reg < 4 →
 As M 516 [.ptr 0 [],AE x,.int .i64 reg] (HX S) 8 (Q3 (.tup .fnil) (F9 (f x reg S)) 11)
theorem FY (l:List Ex) (i:Nat) (h:i < l.length):F7 l i=AE (l.getD i Ch):=by
 rw [M7 l i h,List.getD_eq_getElem?_getD,List.getElem?_eq_getElem h];rfl
def O9 (S:Cd) (sv:List Nat):Hp:=(0,Bz 8 2 3 9 10 7 S) :: (8,EN S.words) :: (4,LB S.calls) :: D8 S.bad.length 9 (BO S.bad) (D8 S.steps.length 10 (BO S.steps) (D8 sv.length 11 (BO sv) []))
theorem FL {M:Seat} (ok:OkCo M) (P:List Fu) (i:Nat) (f:Ex→Nat→Cd→Cd) (xs:List Ex) (c:Nat→Nat) (hf:SA f xs c)
 (hE:∀ j,j < xs.length→ExC M P i f (xs.getD j Ch) (c j)) (hn3:xs.length≤3) (S:Cd) (hb:Bd P i S (Be c xs.length + 1)) :
 As M 517 [.ptr 0 [],AF xs] (HX S) 8 (Q3 (.tup .fnil) (F9 (NO f xs S)) 11):=by
 have hw:=hb.wo;have ht:=hb.te;simp only [HX,F9,Bz];refine Ac ok.k517 rfl fun x hx=>?_;refine eX ?_;simp only [Af6,Ao4,CP,AU,AY,AZ,LZ,seval];refine Au (σ:=Nat) (fun j=>j≤xs.length) (fun j=>fr 118 [(0,.ptr 0 []),(1,AF xs),(4,.int .i64 S.temps),(5,.int .i64 (D3 xs j)),(19,AF xs),(20,.int .i64 xs.length),(21,.int .i64 j)])
  (fun _=>HX S) (fun _=>8) (fun j=>xs.length - j) 0 (Nat.zero_le _) ?_ ?_
 ·refine Av.frO [0,1,2,3,4,5,6,7] [] [0,1,4,5,6] hx Bg Ab (by simp only [HX,AA,seval]) ?_ ?_
  ·simp only [D3,Cy,Int.natCast_zero,LY,seval]
  ·simp only [HX,Bz,Ak,Ae,LH,Ai,LY,seval]
 intro j hj;refine eX ?_;simp only [HX,Bz];by_cases hin:j=xs.length
 ·subst hin;have d0:((xs.length:Int) < (xs.length:Int))=False:=eq_false Aa;simp only [d0,CP,LZ,seval];refine Au (σ:=Nat) (fun j=>j≤xs.length) (fun j=>fr 118 [(0,.ptr 0 []),(1,AF xs),(4,.int .i64 S.temps),(5,.int .i64 (D3 xs xs.length)),(8,Ee 11 (Fz f xs (D3 xs xs.length) S j).1.length),(31,AF xs),(32,.int .i64 xs.length),(33,.int .i64 j)])
   (fun j=>O9 (Fz f xs (D3 xs xs.length) S j).2 (Fz f xs (D3 xs xs.length) S j).1) (fun _=>12) (fun j=>xs.length - j) 0 (Nat.zero_le _) ?_ ?_
  ·simp only [Fz,O9,List.length_nil,SD];refine Av.frO [0,1,2,3,4,5,6,7,1,5,6,99] [] [0,4,8,9,10] hx Bg Ab (by simp only [AA,seval]) ?_ ?_
   ·simp only [Cy,Int.natCast_zero,I1,LY,seval]
   ·simp only [Bz,Ak,Ae,LH,Ai,LY,seval]
  intro j hj;refine eX ?_;obtain ⟨sA1,sA2,sA3⟩:=Nc hf (D3 xs xs.length) S j hj;by_cases hin:j=xs.length
  ·subst hin;have d0:((xs.length:Int) < (xs.length:Int))=False:=eq_false Aa;generalize hTT:(Fz f xs (D3 xs xs.length) S xs.length)=TT at *
   obtain ⟨sv,T⟩:=TT;simp only at sA1 sA2 sA3 ⊢;simp only [O9,Bz];simp only [d0,ER,LZ,seval];refine Au (σ:=Nat) (fun k=>k≤sv.length) (fun k=>fr 118 [(0,.ptr 0 []),(1,AF xs),(4,.int .i64 S.temps),(82,Ee 11 sv.length),(83,.int .i64 sv.length),(84,.int .i64 k)])
    (fun k=>O9 (QN S.temps T sv k) sv) (fun _=>12) (fun k=>sv.length - k) 0 (Nat.zero_le _) ?_ ?_
   ·simp only [QN,O9];refine Av.frO [0,1,2,3,4,5,6,7,8,9,10,11] [] [0,4,8,9,10,11] hx Bg Ab (by simp only [AA,seval]) ?_ ?_
    ·simp only [Cy,Int.natCast_zero,LH,Ai,LY,seval]
    ·simp only [Bz,Ak,Ae,LH,Ai,LY,seval]
   intro k hk;refine eX ?_;have sB:=Nt S.temps T sv k;have hAC:=wAC hf xs.length (Nat.le_refl _);have hjs:=DE hf xs.length (Nat.le_refl _);by_cases hik:k=sv.length
   ·subst hik;have d1:((sv.length:Int) < (sv.length:Int))=False:=eq_false Aa;have hS:NO f xs S=Bp (Lj f xs (QN S.temps T sv sv.length) xs.length) S.temps:=by unfold NO;rw [hTT]
    have hU:=sA1.trans sB (S.temps + Be c xs.length) (Nat.le_refl _) Aa;rw [hS];generalize QN S.temps T sv sv.length=U at *
    simp only [O9,Bz];simp only [d1,CP,LZ,seval];refine Au (σ:=Nat) (fun j=>j≤xs.length) (fun j=>fr 118 [(0,.ptr 0 []),(4,.int .i64 S.temps),(99,AF xs),(100,.int .i64 xs.length),(101,.int .i64 j)])
     (fun j=>F9 (Lj f xs U j)) (fun _=>11) (fun j=>xs.length - j) 0 (Nat.zero_le _) ?_ ?_
    ·simp only [Lj,F9];refine Av.frO [0,1,2,3,4,5,6,7,8,9,10] [] [0,4,8,9,10] hx Bg Ab (by simp only [AA,seval]) ?_ ?_
     ·simp only [Cy,Int.natCast_zero,LH,Ai,LY,seval]
     ·simp only [Bz,Ak,Ae,LH,Ai,LY,seval]
    intro j hj;refine eX ?_;have sC:=Sa hf U j hj;by_cases hin:j=xs.length
    ·subst hin;have d0:((xs.length:Int) < (xs.length:Int))=False:=eq_false Aa;generalize Lj f xs U xs.length=U2 at *
     simp only [F9,Bz];simp only [d0,LZ,seval];simp only [LTp];refine Ay.mkO hx [0,1,2,3,4,5,6,7,8,9,10] [] [0,4,8,9,10] _ _ _ (by simp only [Ak,Ae,AA,seval]) Ab (by (simp only [Dz,Ak,Ae,LH,Ai,seval])) (by ((try simp only [DK,Ak,Ae,LH,Ai,seval]);first | done | exact True.intro | (intros;rfl))) (by ((try simp only [Ak,Ae,LH,Ai,LY,seval]);first | done | exact True.intro | (intros;rfl))) ⟨rfl,rfl,rfl⟩
    ·have d0:((j:Int) < (xs.length:Int))=True:=eq_true Aa;have hlt:j < xs.length:=Aa;have hne:xs ≠ []:=NK;have hy:=FY xs j hlt;have hLe:=GJ ok (xs.getD j Ch);have w2:IntKind.i64.wrap ((j:Int) + 1)=((j + 1:Nat):Int):=B7;have w1:IntKind.i64.wrap (1 + (j:Int))=((1 + j:Nat):Int):=B7;obtain ⟨c1,hs⟩:=hf j hlt;have hEj:=hE j hlt;have h1c:=Yg hf hlt;have hmo:=SB xs c (j + 1) (xs.length - (j + 1));rw [show j + 1 + (xs.length - (j + 1))=xs.length by omega] at hmo;have hwc:wC xs c (j + 1)=wC xs c j + if Jl (xs.getD j Ch) then 24 * c j - 3 else 0:=rfl;have hn1:Lj f xs U (j + 1)=if Jl (xs.getD j Ch) then f (xs.getD j Ch) (1 + j) (Lj f xs U j) else Lj f xs U j:=rfl;have hV:=hU.trans sC (S.temps + Be c xs.length + U.temps + Be c j) Aa Aa;generalize Lj f xs U j=V at *
     generalize xs.getD j Ch=y at *
     simp only [F9,Bz];cases hlf:Jl y
     case' false =>
      rw [hlf] at hLe hn1;simp only [d0,Bs xs hne,hy,Al,An,Am,LZ,seval];repeat refine sd ?_
      have zz:=@B6;refine IQ (hLe) ?_;simp only [w2,LZ,seval];refine ⟨j + 1,by omega,by omega,?_⟩;rw [hn1];simp only [O3];refine Av.frO [0,1,2,3,4,5,6,7,8,9,10] [] [0,4,8,9,10] hx Bg Ab (by simp only [AA,seval]) ?_ ?_
      ·simp only [← Bs xs hne,Cy,LH,Ai,LY,seval]
      ·simp only [Ak,Ae,LH,Ai,LY,seval]
     rw [hlf] at hLe hn1 hwc;simp only [if_true] at hn1 hwc;have hb1:Bd P i V (c j):=hb.sta hV Aa Aa;have hC:=hEj V (1 + j) hb1 Aa;simp only [HX,F9,Bz] at hC;rw [← hn1] at hC;simp only [d0,Bs xs hne,hy,Al,An,Am,LZ,seval];repeat refine sd ?_
     have zz:=@B6;refine IQ (hLe) ?_;simp only [w1,Al,An,Am,LZ,seval];repeat refine sd ?_
     refine Ah [0,8,2,3,4,9,10,7] [0,8,4,9,10] [0,1,4,5,6] (hC) (by simp only [Ak,B6,Ae,AA,seval]) Ab (by ((try simp only [Ak,B6,Ae,LH,Ai,LY,seval]);first | done | exact True.intro | rfl)) (by ((try simp only [Ak,B6,Ae,LH,Ai,LY,seval]);first | done | exact True.intro | rfl)) ?_;simp only [Ad,Ae,LH,Ai,AW,w2,seval];refine ⟨j + 1,by omega,by omega,?_⟩;refine Av.frO [0,1,2,3,4,5,6,7,219,220,221] [] [0,4,8,9,10] hx Bg Ab (by simp only [AA,seval]) ?_ ?_
     ·simp only [← Bs xs hne,Cy,LH,Ai,LY,seval]
     ·simp only [Ak,Ae,LH,Ai,LY,seval]
   ·have d1:((k:Int) < (sv.length:Int))=True:=eq_true Aa;have hlt:k < sv.length:=Aa;have hne2:sv.length ≠ 0:=Aa;have hi3:sv.getD k 0 < 3:=by
     rw [List.getD_eq_getElem?_getD,List.getElem?_eq_getElem hlt];have:=sA3 _ (List.getElem_mem hlt);simp only [Option.getD_some];omega
    have hnl:BO sv = .ar 1 sv.length fun j=>.int .i64 (sv.getD j 0:Nat):=rfl;have d2:(0≤(k:Int))=True:=eq_true Aa;have w2:IntKind.i64.wrap ((k:Int) + 1)=((k + 1:Nat):Int):=B7;have w3:IntKind.i64.wrap ((S.temps:Int) + (k:Int))=((S.temps + k:Nat):Int):=B7;have w1:IntKind.i64.wrap (1 + (sv.getD k 0:Int))=((1 + sv.getD k 0:Nat):Int):=B7;have hn1:QN S.temps T sv (k + 1)=A5 (QN S.temps T sv k) 27 (1 + sv.getD k 0) 14 0 0 (Eb (QN S.temps T sv k) (S.temps + k)):=rfl;have hbT:Bd P i T 0:=hb.sta sA1 Aa Aa;have hpl:Bd P i (QN S.temps T sv k) 0:=by
     have h1:=hb.sta (d:=1) sA1 Aa Aa;exact h1.sta sB Aa Aa
    generalize QN S.temps T sv k=T1 at *
    have hP1:Bi T1.P T1.fn=Bi P i:=by rw [hpl.eP,hpl.efn]
    have hPl:=Eh ok T1 (S.temps + k) Afa Ad0 Aa;have hpb:0≤Eb T1 (S.temps + k)∧Eb T1 (S.temps + k) < 2147483648:=by unfold Eb;rw [hP1];have:=hpl.loc;omega
    have hEm:=Aq ok T1 Ad7 27 (1 + sv.getD k 0) 14 0 0 (Eb T1 (S.temps + k)) Aa Ab Ab Ab Ab Aa;generalize Eb T1 (S.temps + k)=pl at *
    simp only [Bz,Int.natCast_zero] at hPl hEm;simp only [O9,Bz];simp only [d1,d2,AD hne2,CK hne2,hnl,LH,Ai,w1,w3,LZ,seval];refine ⟨by omega,?_⟩;refine Ah [0,8,2,3,4,9,10,7] [0] [0] (hPl) (by simp only [Ak,Ae,AA,seval]) Ab (by ((try simp only [Ak,Ae,LH,Ai,LY,seval]);first | done | exact True.intro | rfl)) (by ((try simp only [Ak,Ae,LH,Ai,LY,seval]);first | done | exact True.intro | rfl)) ?_;simp only [Ad,Ae,LH,Ai,AW,w1,seval];refine Ah [0,8,2,3,4,9,10,7] [0,8] [0,1] (hEm) (by simp only [Ak,Ae,AA,seval]) Ab (by ((try simp only [Ak,Ae,LH,Ai,LY,seval]);first | done | exact True.intro | rfl)) (by ((try simp only [Ak,Ae,LH,Ai,LY,seval]);first | done | exact True.intro | rfl)) ?_;simp only [Ad,Ae,LH,Ai,AW,w2,seval];refine ⟨k + 1,by omega,by omega,?_⟩;rw [hn1];simp only [Ed,← hnl];refine Av.frO [0,1,2,3,4,5,6,7,236,9,10,11] [] [0,4,8,9,10,11] hx Bg Ab (by simp only [AA,seval]) ?_ ?_
    ·simp only [Cy,LH,Ai,LY,seval]
    ·simp only [Ak,Ae,LH,Ai,LY,seval]
  ·have d0:((j:Int) < (xs.length:Int))=True:=eq_true Aa;have hlt:j < xs.length:=Aa;have hne:xs ≠ []:=NK;have hy:=FY xs j hlt;have hLe:=GJ ok (xs.getD j Ch);have w2:IntKind.i64.wrap ((j:Int) + 1)=((j + 1:Nat):Int):=B7;obtain ⟨c1,hs⟩:=hf j hlt;have hEj:=hE j hlt;have hAC:=wAC hf j hj;have hsl:=DF c hlt;have hjs:=DE hf j hj
   have hn1:Fz f xs (D3 xs xs.length) S (j + 1)=(if Jl (xs.getD j Ch) then Fz f xs (D3 xs xs.length) S j else if (j:Int)=D3 xs xs.length then ((Fz f xs (D3 xs xs.length) S j).1,f (xs.getD j Ch) (1 + j) (Fz f xs (D3 xs xs.length) S j).2)
    else ((Fz f xs (D3 xs xs.length) S j).1 ++ [j],CI (f (xs.getD j Ch) (1 + j) (Fz f xs (D3 xs xs.length) S j).2) (1 + j))):=rfl
   generalize (Fz f xs (D3 xs xs.length) S j)=TT at *
   obtain ⟨sv,T⟩:=TT;simp only at sA1 sA2 sA3 hn1 ⊢;generalize hyy:xs.getD j Ch=y at *
   generalize hL:D3 xs xs.length=last at *
   simp only [O9,Bz];cases hlf:Jl y
   case' true =>
    rw [hlf] at hLe hn1;simp only [d0,Bs xs hne,hy,Al,An,Am,LZ,seval];repeat refine sd ?_
    have zz:=@B6;refine IQ (hLe) ?_;simp only [w2,LZ,seval];refine ⟨j + 1,by omega,by omega,?_⟩;rw [hn1];simp only [if_true];refine Av.frO [0,1,2,3,4,5,6,7,8,9,10,11] [] [0,4,8,9,10,11] hx Bg Ab (by simp only [AA,seval]) ?_ ?_
    ·simp only [← Bs xs hne,Cy,LH,Ai,LY,seval]
    ·simp only [Ak,Ae,LH,Ai,LY,seval]
   rw [hlf] at hLe hn1;simp only [O3] at hn1;have hb1:Bd P i T (c j):=hb.sta sA1 Aa Aa;have hC:=hEj T (1 + j) hb1 Aa;have hT1:=hs (1 + j) T;have w1:IntKind.i64.wrap (1 + (j:Int))=((1 + j:Nat):Int):=B7;have hb2:Bd P i (f y (1 + j) T) 0:=hb1.sta hT1 Aa Aa;simp only [HX,F9,Bz] at hC;generalize f y (1 + j) T=T1 at *
   by_cases hjl:(j:Int)=last
   ·rw [if_pos hjl] at hn1;simp only [d0,Bs xs hne,hy,Al,An,Am,LZ,seval];repeat refine sd ?_
    have zz:=@B6;refine IQ (hLe) ?_;simp only [w1,Al,An,Am,LZ,seval];repeat refine sd ?_
    refine Ah [0,8,2,3,4,9,10,7] [0,8,4,9,10] [0,1,4,5,6] (hC) (by simp only [Ak,B6,Ae,AA,seval]) Ab (by ((try simp only [Ak,B6,Ae,LH,Ai,LY,seval]);first | done | exact True.intro | rfl)) (by ((try simp only [Ak,B6,Ae,LH,Ai,LY,seval]);first | done | exact True.intro | rfl)) ?_;simp only [Ad,Ae,LH,Ai,AW,w2,eq_true hjl,seval];refine ⟨j + 1,by omega,by omega,?_⟩;rw [hn1];refine Av.frO [0,1,2,3,4,5,6,7,220,221,222,11] [] [0,4,8,9,10,11] hx Bg Ab (by simp only [AA,seval]) ?_ ?_
    ·simp only [← Bs xs hne,Cy,LH,Ai,LY,seval]
    ·simp only [Ak,Ae,LH,Ai,LY,seval]
   ·rw [if_neg hjl] at hn1;have hpl:Bd P i T1 0:=hb2;have hP1:Bi T1.P T1.fn=Bi P i:=by rw [hpl.eP,hpl.efn]
    have hPl:=Eh ok T1 T1.temps Afa Ad0 (by have:=hpl.te;omega);have hpb:0≤Eb T1 T1.temps∧Eb T1 T1.temps < 2147483648:=by unfold Eb;rw [hP1];have:=hpl.loc;have:=hpl.te;omega
    have hEm:=Aq ok T1 Ad7 28 0 14 (1 + j) 0 (Eb T1 T1.temps) Ab Ab Aa Ab Ab Aa;have hte:=hpl.te;have hsv:CI T1 (1 + j)=OK (A5 T1 28 0 14 (1 + j) 0 (Eb T1 T1.temps)):=rfl;rw [hsv] at hn1;have w3:IntKind.i64.wrap ((T1.temps:Int) + 1)=((T1.temps + 1:Nat):Int):=B7;generalize Eb T1 T1.temps=pl at *
    have ht2:(A5 T1 28 0 14 (1 + j) 0 pl).temps=T1.temps:=rfl;have hm2:(A5 T1 28 0 14 (1 + j) 0 pl).most=T1.most:=rfl;simp only [Bz,Int.natCast_zero] at hPl hEm;simp only [d0,Bs xs hne,hy,Al,An,Am,LZ,seval];repeat refine sd ?_
    have zz:=@B6;refine IQ (hLe) ?_;simp only [w1,Al,An,Am,LZ,seval];repeat refine sd ?_
    refine Ah [0,8,2,3,4,9,10,7] [0,8,4,9,10] [0,1,4,5,6] (hC) (by simp only [Ak,B6,Ae,AA,seval]) Ab (by ((try simp only [Ak,B6,Ae,LH,Ai,LY,seval]);first | done | exact True.intro | rfl)) (by ((try simp only [Ak,B6,Ae,LH,Ai,LY,seval]);first | done | exact True.intro | rfl)) ?_;simp only [Ad,Ae,LH,Ai,Xa,Cp,CM,AW,w1,eq_false hjl,seval];refine ⟨by omega,?_⟩;refine Ah [0,220,2,3,4,221,222,7] [0] [0] (hPl) (by simp only [Ak,Ae,AA,seval]) Ab (by ((try simp only [Ak,Ae,LH,Ai,LY,seval]);first | done | exact True.intro | rfl)) (by ((try simp only [Ak,Ae,LH,Ai,LY,seval]);first | done | exact True.intro | rfl)) ?_;simp only [Ad,Ae,LH,Ai,AW,w1,seval];refine Ah [0,220,2,3,4,221,222,7] [0,220] [0,1] (hEm) (by simp only [Ak,Ae,AA,seval]) Ab (by ((try simp only [Ak,Ae,LH,Ai,LY,seval]);first | done | exact True.intro | rfl)) (by ((try simp only [Ak,Ae,LH,Ai,LY,seval]);first | done | exact True.intro | rfl)) ?_;simp only [Ad,Ae,LH,Ai,AW,Ed,w2,seval];refine ⟨j + 1,by omega,by omega,?_⟩;rw [hn1];simp only [LTm,Ed,w3,Aks];refine Av.frO [0,1,2,3,4,5,6,7,508,221,222,332] [] [0,4,8,9,10,11] hx Bg Ab (by simp only [AA,seval]) ?_ ?_
    ·simp only [← Bs xs hne,Cy,LH,Ai,Ci,LY,seval]
    ·simp only [Ak,Ae,LH,Ai,Ci,LY,seval]
 ·have d0:((j:Int) < (xs.length:Int))=True:=eq_true Aa;have hlt:j < xs.length:=Aa;have hne:xs ≠ []:=NK;have hy:=FY xs j hlt;have hLe:=GJ ok (xs.getD j Ch);have w2:IntKind.i64.wrap ((j:Int) + 1)=((j + 1:Nat):Int):=B7;have hn1:D3 xs (j + 1)=if Jl (xs.getD j Ch) then D3 xs j else j:=rfl;generalize xs.getD j Ch=y at *
  cases hlf:Jl y
  ·rw [hlf] at hLe hn1;simp only [d0,Bs xs hne,hy,Al,An,Am,LZ,seval];repeat refine sd ?_
   have zz:=@B6;refine IQ (hLe) ?_;simp only [w2,LZ,seval];refine ⟨j + 1,by omega,by omega,?_⟩;rw [hn1];refine Av.frO [0,1,2,3,4,5,6,7] [] [0,1,4,5,6] hx Bg Ab (by simp only [AA,seval]) ?_ ?_
   ·simp only [← Bs xs hne,Cy,O3,LY,seval]
   ·simp only [Ak,Ae,LH,Ai,LY,seval]
  ·rw [hlf] at hLe hn1;simp only [d0,Bs xs hne,hy,Al,An,Am,LZ,seval];repeat refine sd ?_
   have zz:=@B6;refine IQ (hLe) ?_;simp only [w2,LZ,seval];refine ⟨j + 1,by omega,by omega,?_⟩;rw [hn1];refine Av.frO [0,1,2,3,4,5,6,7] [] [0,1,4,5,6] hx Bg Ab (by simp only [AA,seval]) ?_ ?_
   ·simp only [← Bs xs hne,Cy,if_true,LY,seval]
   ·simp only [Ak,Ae,LH,Ai,LY,seval]
theorem RW (l:List (Nat × Nat)) (a:Nat) (h:∀ p ∈ l,p.1 < a):∀ c i,i + c≤l.length→KD .int (.int .i64 (a:Nat)) (fun j=>.int .i64 ((l.getD j (0,0)).1:Nat)) i c=none
 | 0,_,_=>rfl
 | c + 1, i, hi => by
   have hlt:i < l.length:=Aa;have h1:=h l[i] (List.getElem_mem hlt);have e:l.getD i (0,0)=l[i]:=by rw [List.getD_eq_getElem?_getD,List.getElem?_eq_getElem hlt];rfl
   have hne:AX .int (.int .i64 (a:Nat)) (.int .i64 ((l.getD i (0,0)).1:Nat))=false:=by rw [e];exact decide_eq_false Aa
   unfold KD;split
   ·rename_i hq;exact absurd (hq.symm.trans hne) Ab
   ·exact RW l a h c (i + 1) Aa
theorem Xc (hh:Bool) (l:List (Nat × Nat)) (a b:Nat) (id:Nat) (H:Hp) (h:∀ p ∈ l,p.1 < a):Mx .int hh (LB l) (.int .i64 (a:Nat)) (.int .i64 (b:Nat)) id H=⟨hh=true,.tup .fnil,BC H id (LB (l ++ [(a,b)]))⟩:=by
 have hf:(.mp (l.length + 1) (fun j=>if j=l.length then .int .i64 (a:Nat) else .int .i64 ((l.getD j (0,0)).1:Nat)) (fun j=>if j=l.length then .int .i64 (b:Nat) else .int .i64 ((l.getD j (0,0)).2:Nat)))=LB (l ++ [(a,b)]):=by
  have hg:∀ j,(l ++ [(a,b)]).getD j (0,0)=if j=l.length then (a,b) else l.getD j (0,0):=fun j=>by
   rw [C0];by_cases h1:j < l.length
   ·rw [if_pos h1,if_neg Aa]
   ·rw [if_neg h1];by_cases h2:j=l.length
    ·rw [if_pos h2,h2,Nat.sub_self];rfl
    ·rw [if_neg h2,List.getD_eq_getElem?_getD,List.getD_eq_getElem?_getD,List.getElem?_eq_none F6,List.getElem?_eq_none Aa]
  unfold LB;simp only [hg,Lc4,Nat.zero_add]
  congr 1 <;> (funext j;split <;> rfl)
 rw [← hf];have hs:(V.int .i64 (a:Nat)).solid=true:=rfl;have hs2:(V.int .i64 (b:Nat)).solid=true:=rfl;simp only [Mx,LB,RW l a h l.length 0 Aa,Option.getD_none,hs,hs2,AQ,implies_true,Lav]
theorem Apr (S:Cd) (a b:Nat):(N0 S a b).P=S.P:=rfl
theorem Yb (S:Cd) (a b:Nat):(N0 S a b).base=S.base:=rfl
theorem Aja (S:Cd) (a b:Nat):(N0 S a b).fn=S.fn:=rfl
theorem Qn (S:Cd) (a b:Nat):(N0 S a b).frames=S.frames:=rfl
theorem Oc (S:Cd) (a b:Nat):(N0 S a b).entries=S.entries:=rfl
theorem Vo (S:Cd) (a b:Nat):(N0 S a b).calls=S.calls:=rfl
theorem Adw (S:Cd) (a b:Nat):(N0 S a b).bad=S.bad:=rfl
theorem Ut (S:Cd) (a b:Nat):(N0 S a b).steps=S.steps ++ [a,b]:=rfl
theorem Tz (S:Cd) (a b:Nat):(N0 S a b).backs=S.backs:=rfl
theorem Uq (S:Cd) (a b:Nat):(N0 S a b).temps=S.temps:=rfl
theorem Zv (S:Cd) (a b:Nat):(N0 S a b).most=S.most:=rfl
theorem U9 (S:Cd) (a b:Nat):(N0 S a b).words=S.words:=rfl
def LCe:=(De @Apr @Yb @Aja @Qn @Oc @Vo @Adw @Ut @Tz @Uq @Zv @U9)
theorem Amw (S:Cd) (n:Nat):(caC S n).P=S.P:=rfl
theorem XK (S:Cd) (n:Nat):(caC S n).base=S.base:=rfl
theorem Ahz (S:Cd) (n:Nat):(caC S n).fn=S.fn:=rfl
theorem QZ (S:Cd) (n:Nat):(caC S n).frames=S.frames:=rfl
theorem OU (S:Cd) (n:Nat):(caC S n).entries=S.entries:=rfl
theorem Afi (S:Cd) (n:Nat):(caC S n).bad=S.bad:=rfl
theorem T5 (S:Cd) (n:Nat):(caC S n).steps=S.steps:=rfl
theorem Uj (S:Cd) (n:Nat):(caC S n).backs=S.backs:=rfl
theorem Ul (S:Cd) (n:Nat):(caC S n).temps=S.temps:=rfl
theorem Yf (S:Cd) (n:Nat):(caC S n).most=S.most:=rfl
theorem Gy (S:Cd) (n:Nat):(caC S n).words=(A5 S 32 15 0 0 0 0).words:=rfl
theorem UN (S:Cd) (n:Nat):(caC S n).calls=S.calls ++ [(S.words.length,n)]:=rfl
def LCc:=(De @Amw @XK @Ahz @QZ @OU @UN @Afi @T5 @Uj @Ul @Yf @Gy)
theorem QL {M:Seat} (ok:OkCo M) (P:List Fu) (i:Nat) (f:Ex→Nat→Cd→Cd) (xs:List Ex) (c:Nat→Nat) (hf:SA f xs c)
 (hE:∀ j,j < xs.length→ExC M P i f (xs.getD j Ch) (c j)) (n:BitVec 64) (hn64:n.toNat < 1000) (hn24:xs.length≤24) (reg:Nat) (hr:reg < 4) (S:Cd) (hb:Bd P i S (Be c xs.length + 1)) :
 As M 538 [.ptr 0 [],AE (.mk 29 n xs),.int .i64 reg] (HX S) 8 (Q3 (.tup .fnil) (F9 (caS f xs n.toNat reg S)) 11):=by
 have hw:=hb.wo;have ht:=hb.te;have hx0:AE (.mk 29 n xs) = .st 3 (.fcons 0 (.int .i64 29) (.fcons 1 (W n) (.fcons 2 (AF xs) .fnil))):=by simp only [AE]
 have hni:n.toInt=((n.toNat:Nat):Int):=Adp;have hwni:IntKind.i64.wrap (n.toInt)=((n.toNat:Nat):Int):=by rw [hni,AR Aa]
 rw [hx0];simp only [HX,F9,Bz];refine Ac ok.k538 rfl fun x hx=>?_;refine eX ?_;simp only [Aio,Ao6,CP,AU,AY,AZ,LZ,seval];have hbx:∀ H m z,Aw H m z (V.st 3 (.fcons 0 (.int .i64 29) (.fcons 1 (W n) (.fcons 2 (AF xs) .fnil)))) (V.st 3 (.fcons 0 (.int .i64 29) (.fcons 1 (W n) (.fcons 2 (AF xs) .fnil))))=True:=fun H m z=>by rw [← hx0];exact sex H m z _
 generalize hbb:V.st 3 (.fcons 0 (.int .i64 29) (.fcons 1 (W n) (.fcons 2 (AF xs) .fnil)))=bx at *
 refine Au (σ:=Nat) (fun j=>j≤xs.length) (fun j=>fr 110 [(0,.ptr 0 []),(2,.int .i64 reg),(4,.ptr 11 []),(6,.int .i64 S.temps),(17,AF xs),(18,.int .i64 xs.length),(19,.int .i64 j)])
  (fun j=>(11,bx) :: F9 (GM f xs S j)) (fun _=>12) (fun j=>xs.length - j) 0 (Nat.zero_le _) ?_ ?_
 ·simp only [GM,F9];refine Av.frO [0,1,2,3,4,5,6,7,1,5,6,8] [] [0,4,8,9,10,11] hx Bg Ab (by simp only [AA,seval]) ?_ ?_
  ·simp only [Cy,Int.natCast_zero,LH,Ai,LY,seval]
  ·simp only [Bz,Ak,hbx,Ae,LH,Ai,LY,seval]
 intro j hj;refine eX ?_;obtain ⟨sA,_⟩:=Jp hf S j hj;by_cases hin:j=xs.length
 ·subst hin;have d0:((xs.length:Int) < (xs.length:Int))=False:=eq_false Aa;have hAe:=Jp hf S xs.length (Nat.le_refl _);have hbT:Bd P i (Bp (GM f xs S xs.length) S.temps) 0:=hb.sta sA.tp Aa Aa;have hbw:(Bp (GM f xs S xs.length) S.temps).words.length + 2 * xs.length + 20 < 800000:=by
   have h1:=sA.words;have h2:=hb.wo;have h3:=hAe.2;have e:(Bp (GM f xs S xs.length) S.temps).words=(GM f xs S xs.length).words:=rfl;rw [e];omega
  unfold caS;have h1:=Aq ok (Bp (GM f xs S xs.length) S.temps) Aa 26 11 0 0 0 0 Ab Ab Ab Ab Ab Ab;have hT0:(Bp (GM f xs S xs.length) S.temps).temps=S.temps:=rfl;have hTw:(Bp (GM f xs S xs.length) S.temps).words.length=(GM f xs S xs.length).words.length:=rfl;simp only [F9,Bz];simp only [Bz,Int.natCast_zero,LTp] at h1;simp only [d0,CP,LZ,seval];refine Ah [0,8,2,3,4,9,10,7] [0,8] [0,1] (h1) (by simp only [Ak,Ae,AA,seval]) Ab (by ((try simp only [Ak,Ae,LH,Ai,LY,seval]);first | done | exact True.intro | rfl)) (by ((try simp only [Ak,Ae,LH,Ai,LY,seval]);first | done | exact True.intro | rfl)) ?_;simp only [Ad,Ae,LH,Ai,AW,Ed,seval];have hTc:(Bp (GM f xs S xs.length) S.temps).calls=(GM f xs S xs.length).calls:=rfl;have hTb:(Bp (GM f xs S xs.length) S.temps).bad=(GM f xs S xs.length).bad:=rfl;have hTs:(Bp (GM f xs S xs.length) S.temps).steps=(GM f xs S xs.length).steps:=rfl;simp only [← hTw,← hTc,← hTb,← hTs];generalize hTT:Bp (GM f xs S xs.length) S.temps=T at *
  have h2:=Aq ok (A5 T 26 11 0 0 0 0) U4 1 10 14 11 0 0 Ab Ab Ab Ab Ab Ab;simp only [Bz,Int.natCast_zero,Ed] at h2;refine Ah [0,124,2,3,4,9,10,7] [0,124] [0,1] (h2) (by simp only [Ak,Ae,AA,seval]) Ab (by ((try simp only [Ak,Ae,LH,Ai,LY,seval]);first | done | exact True.intro | rfl)) (by ((try simp only [Ak,Ae,LH,Ai,LY,seval]);first | done | exact True.intro | rfl)) ?_;simp only [Ad,Ae,LH,Ai,AW,Ed,← hbb,CP,AU,AY,AZ,seval];simp only [hbb];have hbE:Bd P i (A5 (A5 T 26 11 0 0 0 0) 1 10 14 11 0 0) 0:=⟨hbT.eP,hbT.efn,hbT.lt,hbT.loc,hbT.bas,(hbT.wf.em _).em _,by rw [Aj,Aj];omega,hbT.te⟩
  refine Au (σ:=Nat) (fun j=>j≤xs.length) (fun j=>fr 110 [(0,.ptr 0 []),(2,.int .i64 reg),(4,.ptr 11 []),(6,.int .i64 S.temps),(9,.int .i64 T.words.length),(64,.int .i64 xs.length),(65,.int .i64 j)])
   (fun j=>(11,bx) :: F9 (caB S.temps (A5 (A5 T 26 11 0 0 0 0) 1 10 14 11 0 0) j)) (fun _=>12) (fun j=>xs.length - j) 0 (Nat.zero_le _) ?_ ?_
  ·simp only [caB,F9,Bz,Ed];refine Av.frO [0,1,2,3,4,5,6,7,172,9,10,11] [] [0,4,8,9,10,11] hx Bg Ab (by simp only [AA,seval]) ?_ ?_
   ·simp only [Cy,Int.natCast_zero,LH,Ai,LY,seval]
   ·simp only [Ak,hbx,Ae,LH,Ai,LY,seval]
  have hEl:(A5 (A5 T 26 11 0 0 0 0) 1 10 14 11 0 0).words.length=T.words.length + 2:=by rw [Aj,Aj]
  have hEt:(A5 (A5 T 26 11 0 0 0 0) 1 10 14 11 0 0).temps=S.temps:=hT0;unfold caF caG;have hbw2:(A5 (A5 T 26 11 0 0 0 0) 1 10 14 11 0 0).words.length + 2 * xs.length + 18 < 800000:=by rw [Aj,Aj];omega
  generalize hEE:A5 (A5 T 26 11 0 0 0 0) 1 10 14 11 0 0=E at *
  intro j hj;refine eX ?_;have sB:=Jg S.temps E j;by_cases hin:j=xs.length
  ·subst hin;have d0:((xs.length:Int) < (xs.length:Int))=False:=eq_false Aa;generalize caB S.temps E xs.length=G at *
   have hGw:=sB.words;have h3:=Aq ok G Aa 1 14 10 12 0 0 Ab Ab Ab Ab Ab Ab;simp only [Bz,Int.natCast_zero] at h3;simp only [F9,Bz];simp only [d0,LZ,seval];refine Ah [0,8,2,3,4,9,10,7] [0,8] [0,1] (h3) (by simp only [Ak,Ae,AA,seval]) Ab (by ((try simp only [Ak,Ae,LH,Ai,LY,seval]);first | done | exact True.intro | rfl)) (by ((try simp only [Ak,Ae,LH,Ai,LY,seval]);first | done | exact True.intro | rfl)) ?_;have hwf3:WFc (A5 G 1 14 10 12 0 0):=(sB.wf hbE.wf).em _;have hl3:(A5 G 1 14 10 12 0 0).words.length=G.words.length + 1:=Aj _ _ _ _ _ _ _;have hc3:(A5 G 1 14 10 12 0 0).calls=G.calls:=rfl;have hb3:(A5 G 1 14 10 12 0 0).bad=G.bad:=rfl;have hs3:(A5 G 1 14 10 12 0 0).steps=G.steps:=rfl;simp only [Ad,Ae,LH,Ai,AW,seval];simp only [← hc3,← hb3,← hs3];generalize A5 G 1 14 10 12 0 0=G3 at *
   have h4:=Aq ok G3 Aa 32 15 0 0 0 0 Ab Ab Ab Ab Ab Ab;have hmu:=fun hh id H=>Xc hh G3.calls G3.words.length n.toNat id H hwf3.ck;simp only [Bz,Int.natCast_zero,Ed] at h4;refine Nb [0,44,2,3,4,9,10,7] [0,44] [0,1] (h4) (by simp only [Ak,Ae,AA,seval]) Ab (by ((try simp only [Ak,Ae,LH,Ai,LY,seval]);first | done | exact True.intro | rfl)) (by ((try simp only [Ak,Ae,LH,Ai,LY,seval]);first | done | exact True.intro | rfl)) ?_;simp only [Ad,Ae,LH,Ai,AW,← hbb,hni,AU,AY,AZ,P5,VU,hmu,seval];have h5:=Aq ok (caC G3 n.toNat) (by rw [Gy,Aj];omega) 26 10 0 0 0 0 Ab Ab Ab Ab Ab Ab;have h6:=Aq ok (A5 (caC G3 n.toNat) 26 10 0 0 0 0) (by rw [Aj,Gy,Aj];omega) 2 14 14 10 0 0 Ab Ab Ab Ab Ab Ab;simp only [Bz,Int.natCast_zero,Ed,LCc] at h5 h6;refine Ah [0,236,2,3,4,9,10,7] [0,236] [0,1] (h5) (by simp only [Ak,Ae,AA,seval]) Ab (by ((try simp only [Ak,Ae,LH,Ai,LY,seval]);first | done | exact True.intro | rfl)) (by ((try simp only [Ak,Ae,LH,Ai,LY,seval]);first | done | exact True.intro | rfl)) ?_;simp only [Ad,Ae,LH,Ai,AW,Ed,seval];by_cases hr0:reg=0
   ·subst hr0;refine Ah [0,396,2,3,4,9,10,7] [0,396] [0,1] (h6) (by simp only [Ak,Ae,AA,seval]) Ab (by ((try simp only [Ak,Ae,LH,Ai,LY,seval]);first | done | exact True.intro | rfl)) (by ((try simp only [Ak,Ae,LH,Ai,LY,seval]);first | done | exact True.intro | rfl)) ?_;simp only [Ad,Ae,LH,Ai,Xa,Cp,CM,AW,Ed,seval];simp only [caD,if_true,LCe,Ed,LCc];refine ⟨by have:=hwf3.sl;omega,?_⟩;refine Ay.mkO hx [0,1,2,3,4,5,6,7,444,9,620] [] [0,4,8,9,10] _ _ _ (by simp only [Ak,Ae,Ci,AA,seval]) Ab (by (simp only [Dz,Ak,Ae,Ci,LH,Ai,seval])) (by ((try simp only [DK,Ak,Ae,Ci,LH,Ai,seval]);first | done | exact True.intro | (intros;rfl))) (by ((try simp only [Ak,Ae,Ci,LH,Ai,LY,seval]);first | done | exact True.intro | (intros;rfl))) ⟨rfl,rfl,rfl⟩
   ·have e0:((reg:Int)=0)=False:=eq_false Aa;have h7:=Aq ok (A5 (A5 (caC G3 n.toNat) 26 10 0 0 0 0) 2 14 14 10 0 0) (by rw [Aj,Aj,Gy,Aj];omega) 1 reg 0 12 0 0 Aa Ab Ab Ab Ab Ab;simp only [Bz,Int.natCast_zero,Ed,LCc] at h7;refine Ah [0,396,2,3,4,9,10,7] [0,396] [0,1] (h6) (by simp only [Ak,Ae,AA,seval]) Ab (by ((try simp only [Ak,Ae,LH,Ai,LY,seval]);first | done | exact True.intro | rfl)) (by ((try simp only [Ak,Ae,LH,Ai,LY,seval]);first | done | exact True.intro | rfl)) ?_;simp only [Ad,Ae,LH,Ai,Xa,Cp,CM,AW,Ed,e0,seval];refine Ah [0,444,2,3,4,9,10,7] [0,444] [0,1] (h7) (by simp only [Ak,Ae,AA,seval]) Ab (by ((try simp only [Ak,Ae,LH,Ai,LY,seval]);first | done | exact True.intro | rfl)) (by ((try simp only [Ak,Ae,LH,Ai,LY,seval]);first | done | exact True.intro | rfl)) ?_;simp only [Ad,Ae,LH,Ai,Xa,Cp,CM,AW,Ed,e0,seval];simp only [caD,hr0,if_false,LCe,Ed,LCc];refine ⟨by have:=hwf3.sl;omega,?_⟩;refine Ay.mkO hx [0,1,2,3,4,5,6,7,524,9,668] [] [0,4,8,9,10] _ _ _ (by simp only [Ak,Ae,Ci,AA,seval]) Ab (by (simp only [Dz,Ak,Ae,Ci,LH,Ai,seval])) (by ((try simp only [DK,Ak,Ae,Ci,LH,Ai,seval]);first | done | exact True.intro | (intros;rfl))) (by ((try simp only [Ak,Ae,Ci,LH,Ai,LY,seval]);first | done | exact True.intro | (intros;rfl))) ⟨rfl,rfl,rfl⟩
  ·have d0:((j:Int) < (xs.length:Int))=True:=eq_true Aa;have hlt:j < xs.length:=Aa;have w2:IntKind.i64.wrap ((j:Int) + 1)=((j + 1:Nat):Int):=B7;have w3:IntKind.i64.wrap ((S.temps:Int) + (j:Int))=((S.temps + j:Nat):Int):=B7;have hn1:caB S.temps E (j + 1)=A5 (A5 (caB S.temps E j) 27 0 14 0 0 (Eb (caB S.temps E j) (S.temps + j))) 28 0 10 0 0 j:=rfl;have hpl:Bd P i (caB S.temps E j) 0:=⟨sB.P.trans hbE.eP,sB.fn.trans hbE.efn,hbE.lt,hbE.loc,by rw [sB.base];exact hbE.bas,sB.wf hbE.wf,by have:=sB.words;omega,by rw [sB.temps];exact hbE.te⟩
   have hjs:=DE hf xs.length (Nat.le_refl _);generalize caB S.temps E j=T1 at *
   have hP1:Bi T1.P T1.fn=Bi P i:=by rw [hpl.eP,hpl.efn]
   have hPl:=Eh ok T1 (S.temps + j) Afa Ad0 Aa;have hpb:0≤Eb T1 (S.temps + j)∧Eb T1 (S.temps + j) < 2147483648:=by unfold Eb;rw [hP1];have:=hpl.loc;omega
   have h3:=Aq ok T1 Ad7 27 0 14 0 0 (Eb T1 (S.temps + j)) Ab Ab Ab Ab Ab Aa;generalize Eb T1 (S.temps + j)=pl at *
   have h4:=Aq ok (A5 T1 27 0 14 0 0 pl) (by rw [Aj];have:=hpl.wo;omega) 28 0 10 0 0 j Ab Ab Ab Ab Ab Aa;simp only [Bz,Int.natCast_zero,Ed] at hPl h3 h4;simp only [F9,Bz];simp only [d0,w3,LZ,seval];refine Ah [0,8,2,3,4,9,10,7] [0] [0] (hPl) (by simp only [Ak,Ae,AA,seval]) Ab (by ((try simp only [Ak,Ae,LH,Ai,LY,seval]);first | done | exact True.intro | rfl)) (by ((try simp only [Ak,Ae,LH,Ai,LY,seval]);first | done | exact True.intro | rfl)) ?_;simp only [Ad,Ae,LH,Ai,AW,seval];refine Ah [0,8,2,3,4,9,10,7] [0,8] [0,1] (h3) (by simp only [Ak,Ae,AA,seval]) Ab (by ((try simp only [Ak,Ae,LH,Ai,LY,seval]);first | done | exact True.intro | rfl)) (by ((try simp only [Ak,Ae,LH,Ai,LY,seval]);first | done | exact True.intro | rfl)) ?_;simp only [Ad,Ae,LH,Ai,AW,Ed,seval];refine Ah [0,156,2,3,4,9,10,7] [0,156] [0,1] (h4) (by simp only [Ak,Ae,AA,seval]) Ab (by ((try simp only [Ak,Ae,LH,Ai,LY,seval]);first | done | exact True.intro | rfl)) (by ((try simp only [Ak,Ae,LH,Ai,LY,seval]);first | done | exact True.intro | rfl)) ?_;simp only [Ad,Ae,LH,Ai,AW,Ed,w2,seval];refine ⟨j + 1,by omega,by omega,?_⟩;rw [hn1];simp only [Ed];refine Av.frO [0,1,2,3,4,5,6,7,204,9,10,11] [] [0,4,8,9,10,11] hx Bg Ab (by simp only [AA,seval]) ?_ ?_
   ·simp only [Cy,LH,Ai,LY,seval]
   ·simp only [Ak,hbx,Ae,LH,Ai,LY,seval]
 ·have d0:((j:Int) < (xs.length:Int))=True:=eq_true Aa;have hlt:j < xs.length:=Aa;have hne:xs ≠ []:=NK;have hy:=FY xs j hlt;have w2:IntKind.i64.wrap ((j:Int) + 1)=((j + 1:Nat):Int):=B7;obtain ⟨c1,hs⟩:=hf j hlt;have hsl:=DF c hlt;have hjs:=DE hf j hj;have hn1:GM f xs S (j + 1)=CI (f (xs.getD j Ch) 0 (GM f xs S j)) 0:=rfl;have hC:=hE j hlt (GM f xs S j) 0 (hb.sta sA Aa Aa) Aa;have hb1:Bd P i (GM f xs S j) (c j):=hb.sta sA Aa Aa;have hpl:Bd P i (f (xs.getD j Ch) 0 (GM f xs S j)) 0:=hb1.sta (hs 0 (GM f xs S j)) Aa Aa;generalize GM f xs S j=T at *
  generalize xs.getD j Ch=y at *
  generalize f y 0 T=T1 at *
  have hP1:Bi T1.P T1.fn=Bi P i:=by rw [hpl.eP,hpl.efn]
  have hPl:=Eh ok T1 T1.temps Afa Ad0 (by have:=hpl.te;omega);have hpb:0≤Eb T1 T1.temps∧Eb T1 T1.temps < 2147483648:=by unfold Eb;rw [hP1];have:=hpl.loc;have:=hpl.te;omega
  have hEm:=Aq ok T1 Ad7 28 0 14 0 0 (Eb T1 T1.temps) Ab Ab Aa Ab Ab Aa;have hte:=hpl.te;have hsv:CI T1 0=OK (A5 T1 28 0 14 0 0 (Eb T1 T1.temps)):=rfl;rw [hsv] at hn1;have w3:IntKind.i64.wrap ((T1.temps:Int) + 1)=((T1.temps + 1:Nat):Int):=B7;generalize Eb T1 T1.temps=pl at *
  simp only [HX,F9,Bz,Int.natCast_zero] at hPl hEm hC;simp only [F9,Bz];simp only [d0,Bs xs hne,hy,Al,An,Am,LZ,seval];repeat refine sd ?_
  refine Ah [0,8,2,3,4,9,10,7] [0,8,4,9,10] [0,1,4,5,6] (hC) (by simp only [Ak,B6,Ae,AA,seval]) Ab (by ((try simp only [Ak,B6,Ae,LH,Ai,LY,seval]);first | done | exact True.intro | rfl)) (by ((try simp only [Ak,B6,Ae,LH,Ai,LY,seval]);first | done | exact True.intro | rfl)) ?_;simp only [Ad,Ae,LH,Ai,AW,seval];refine Ah [0,124,2,3,4,125,126,7] [0] [0] (hPl) (by simp only [Ak,Ae,AA,seval]) Ab (by ((try simp only [Ak,Ae,LH,Ai,LY,seval]);first | done | exact True.intro | rfl)) (by ((try simp only [Ak,Ae,LH,Ai,LY,seval]);first | done | exact True.intro | rfl)) ?_;simp only [Ad,Ae,LH,Ai,AW,seval];refine Ah [0,124,2,3,4,125,126,7] [0,124] [0,1] (hEm) (by simp only [Ak,Ae,AA,seval]) Ab (by ((try simp only [Ak,Ae,LH,Ai,LY,seval]);first | done | exact True.intro | rfl)) (by ((try simp only [Ak,Ae,LH,Ai,LY,seval]);first | done | exact True.intro | rfl)) ?_;simp only [Ad,Ae,LH,Ai,AW,Ed,w2,seval];refine ⟨j + 1,by omega,by omega,?_⟩;rw [hn1];simp only [LTm,Ed,w3,Aks];refine Av.frO [0,1,2,3,4,5,6,7,252,125,126,11] [] [0,4,8,9,10,11] hx Bg Ab (by simp only [AA,seval]) ?_ ?_
  ·simp only [← Bs xs hne,Cy,LH,Ai,Ci,LY,seval]
  ·simp only [Ak,hbx,Ae,LH,Ai,Ci,LY,seval]
end Mv
