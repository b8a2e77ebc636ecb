/- A part. -/
import Derived.Test.YtpcgkiecjakknaaGreatDoorFL
set_option linter.all false
set_option maxRecDepth 20000
set_option maxHeartbeats 16000000
namespace Mv
open Go
theorem Me {G:Gs} {a:Nat} {df:Bool} {v:Dg} {pl:Int} {bd t:BitVec 64} {k i:Nat} (h:Zs G a df v pl bd t k i=none) :
 k < G.D∧¬ (df=true∧i + 1=2 ^ k)∧bd=BitVec.ofNat 64 (k + 2)∧(¬ ∃ j,j < G.n∧M4 (Sw a v pl) (Ks k i df) (G.c j))∧¬ Gy (G.c a).us (G.c a).at' (CQ G.c (G.c a)) t
  ∧ ¬ G.l≤CQ G.c (G.c a) + t - (G.c a).at'∧G.n < 64∧(∃ p:Nat,p < 8∧pl=p)∧¬ G.b pl.toNat < bd:=by
 unfold Zs at h
 by_cases h1:G.D≤k
 ·rw [if_pos h1] at h;cases h
 rw [if_neg h1] at h
 by_cases h2:df=true∧i + 1=2 ^ k
 ·rw [if_pos h2] at h;cases h
 rw [if_neg h2] at h
 by_cases h3:bd=BitVec.ofNat 64 (k + 2)
 case neg=>rw [if_pos h3] at h;cases h
 rw [if_neg (fun q=>q h3)] at h
 by_cases h4:∃ j,j < G.n∧M4 (Sw a v pl) (Ks k i df) (G.c j)
 ·rw [if_pos h4] at h;cases h
 rw [if_neg h4] at h
 by_cases h5:Gy (G.c a).us (G.c a).at' (CQ G.c (G.c a)) t
 ·rw [if_pos h5] at h;cases h
 rw [if_neg h5] at h
 by_cases h6:G.l≤CQ G.c (G.c a) + t - (G.c a).at'
 ·rw [if_pos h6] at h;cases h
 rw [if_neg h6] at h
 by_cases h7:64≤G.n
 ·rw [if_pos h7] at h;cases h
 rw [if_neg h7] at h
 by_cases h8:pl < 0 ∨ 8≤pl
 ·rw [if_pos h8] at h;cases h
 rw [if_neg h8] at h
 by_cases h9:G.b pl.toNat < bd
 ·rw [if_pos h9] at h;cases h
 exact ⟨by omega,h2,h3,h4,h5,h6,by omega,⟨pl.toNat,by omega,by omega⟩,h9⟩
theorem Acc {G:Gs} {vf:Dg→Dg × Option Int} {a:Nat} {df:Bool} {pl:Int} {t:BitVec 64} (h:G.stE vf a df pl t=none) :
 (∃ p:Nat,p < 8∧pl=p)∧Ia (G.c a).pos=G.D∧(G.c a).st=false:=by
 unfold Gs.stE at h
 cases hP:G.stP a df pl t with
 | some e=>rw [hP] at h;cases h
 | none =>
   unfold Gs.stP at hP
   by_cases h1:pl < 0 ∨ 8≤pl
   ·rw [if_pos h1] at hP;cases hP
   rw [if_neg h1] at hP
   by_cases h2:Ia (G.c a).pos=G.D
   case neg=>rw [if_pos h2] at hP;cases hP
   rw [if_neg (fun q=>q h2)] at hP
   by_cases h3:df=true∧G.enJ a=none
   ·rw [if_pos h3] at hP;cases hP
   rw [if_neg h3] at hP
   cases h4:(G.c a).st with
   | true=>rw [if_pos h4] at hP;cases hP
   | false=>exact ⟨⟨pl.toNat,by omega,by omega⟩,h2,rfl⟩
theorem Tb {G:Gs} {vf:Dg→Dg × Option Int} {a:Int} {df:Bool} {pl:Int} {t:BitVec 64} (h:G.tE vf a df pl t=none):∃ p:Nat,a=p∧p < G.n∧(G.c p).rs=false∧G.stE vf p df pl t=none:=by
 unfold Gs.tE at h
 by_cases h1:a < 0 ∨ (G.n:Int)≤a
 ·rw [if_pos h1] at h;cases h
 rw [if_neg h1] at h
 obtain ⟨p,rfl⟩:∃ p:Nat,a=p:=⟨a.toNat,by omega⟩
 rw [Int.toNat_natCast] at h
 cases hrs:(G.c p).rs with
 | true=>rw [if_pos hrs] at h;cases h
 | false=>rw [if_neg (by rw [hrs];simp)] at h;exact ⟨p,rfl,by omega,hrs,h⟩
theorem Rg {G:Gs} {a:Int} {t:BitVec 64} (h:G.rE a t=none):∃ p:Nat,a=p∧p < G.n∧(G.c p).rs=false∧G.rsE p t=none:=by
 unfold Gs.rE at h
 by_cases h1:a < 0 ∨ (G.n:Int)≤a
 ·rw [if_pos h1] at h;cases h
 rw [if_neg h1] at h
 obtain ⟨p,rfl⟩:∃ p:Nat,a=p:=⟨a.toNat,by omega⟩
 rw [Int.toNat_natCast] at h
 cases hrs:(G.c p).rs with
 | true=>rw [if_pos hrs] at h;cases h
 | false=>rw [if_neg (by rw [hrs];simp)] at h;exact ⟨p,rfl,by omega,hrs,h⟩
structure Gs.ok (G:Gs):Prop where
 w:G.wf
 b:G.bd
 n0:0 < G.n
theorem WT {D k i:Nat} {df:Bool} (hk:k < D) (hi:i < 2 ^ k) (h:¬ (df=true∧i + 1=2 ^ k)):∃ k' i',k'≤D∧i' < 2 ^ k'∧Ks k i df=pw k' i':=by
 have e:2 ^ (k + 1)=2 * 2 ^ k:=Y6
 unfold Ks
 cases df with
 | true=>exact ⟨k + 1,2 * i + 2,hk,by rw [e];have:i + 1 ≠ 2 ^ k:=fun q=>h ⟨rfl,q⟩;omega,by simp⟩
 | false=>exact ⟨k + 1,2 * i,hk,by rw [e];omega,by simp⟩
theorem Af2 {G:Gs} (h:G.ok) {a:Int} {df:Bool} {v:Dg} {pl:Int} {bd t:BitVec 64} (he:G.mE a df v pl bd t=none):(G.mT a df v pl bd t).ok:=by
 obtain ⟨p,rfl,hp,hrs,he⟩:=Gs.mE_in he
 obtain ⟨k,i,hk,hi,hpos⟩:=h.w.pls p hp
 have hD:=h.w.hD
 unfold Gs.mT
 rw [Int.toNat_natCast]
 rw [hpos,Cr Aa hi,Ej Aa hi] at he ⊢
 obtain ⟨h1,h2,h3,-,-,-,h7,⟨q,hq,rfl⟩,-⟩:=Me he
 have hA:=WT h1 hi h2
 refine ⟨⟨hD,?_,h.w.hr,fun j hj=>?_,fun j hj=>?_⟩,⟨fun j hj=>?_,fun j hj=>?_,fun j hj=>?_⟩,?_⟩
 ·show G.n + 1≤64;omega
 all_goals try (show 0 < G.n + 1;omega)
 all_goals
  have hj:j < G.n + 1:=hj
  dsimp only [Gs.mv]
  by_cases hjn:j < G.n
 all_goals simp only [hjn,CL]
 ·exact h.w.pls j hjn
 ·exact hA
 ·exact h.w.prs j hjn
 ·exact .inr ⟨p,rfl,by omega⟩
 ·exact h.b.bond j hjn
 ·refine ⟨?_,rfl⟩
  show (G.n:Int)=j
  omega
 ·exact h.b.by' j hjn
 ·exact ⟨q,hq,rfl⟩
 ·exact h.b.pl j hjn
 ·exact ⟨q,hq,rfl⟩
theorem Aiq {G:Gs} (h:G.ok) {vf:Dg→Dg × Option Int} {a:Int} {df:Bool} {pl:Int} {t:BitVec 64} (he:G.tE vf a df pl t=none):(G.tT a pl).ok:=by
 obtain ⟨p,rfl,hp,hrs,he⟩:=Tb he
 obtain ⟨⟨q,hq,rfl⟩,-,-⟩:=Acc he
 refine ⟨⟨h.w.hD,h.w.hn,h.w.hr,fun j hj=>?_,fun j hj=>?_⟩,⟨fun j hj=>?_,fun j hj=>?_,fun j hj=>?_⟩,h.n0⟩
 all_goals
  dsimp only [Gs.tT]
  rw [Int.toNat_natCast]
  by_cases hjp:j=p
 all_goals first | subst hjp | skip
 all_goals first | simp only [hjp,if_false] | simp only [if_true]
 ·exact h.w.pls j hj
 ·exact h.w.pls j hj
 ·exact h.w.prs j hj
 ·exact h.w.prs j hj
 ·exact h.b.bond j hj
 ·exact h.b.bond j hj
 ·exact ⟨q,hq,rfl⟩
 ·exact h.b.by' j hj
 ·exact h.b.pl j hj
 ·exact h.b.pl j hj
theorem Ti {G:Gs} (h:G.ok) {a:Nat} (ha:a < G.n):(G.rsv a).ok:=by
 obtain ⟨q,hq,hB⟩:=G.rsB_lt h.b ha
 refine ⟨⟨h.w.hD,h.w.hn,h.w.hr,fun j hj=>?_,fun j hj=>?_⟩,⟨fun j hj=>?_,fun j hj=>?_,fun j hj=>?_⟩,h.n0⟩
 all_goals
  dsimp only [Gs.rsv,Gs.rsC]
  by_cases hjp:j=a
 all_goals first | subst hjp | skip
 all_goals first | simp only [hjp,if_false] | simp only [if_true]
 ·exact h.w.pls j hj
 ·exact h.w.pls j hj
 ·exact h.w.prs j hj
 ·exact h.w.prs j hj
 ·exact ⟨(h.b.bond j hj).1,trivial⟩
 ·exact h.b.bond j hj
 ·exact ⟨q,hq,hB⟩
 ·exact h.b.by' j hj
 ·exact h.b.pl j hj
 ·exact h.b.pl j hj
structure Op where
 kd:Int
 cl:Int
 df:Bool
 vl:Int
 pl:Int
 off:BitVec 64
 tn:BitVec 64
 wt:BitVec 64
instance:Inhabited Op:=⟨⟨0,0,false,0,0,0,0,0⟩⟩
def Op.v (o:Op):V:=.st 8 (.fcons 0 (.int .i64 o.kd) (.fcons 1 (.int .i64 o.cl) (.fcons 2 (.bool o.df) (.fcons 3 (.int .i64 o.vl) (.fcons 4 (.int .i64 o.pl) (.fcons 5 (W o.off) (.fcons 6 (W o.tn) (.fcons 7 (W o.wt) .fnil))))))))
structure Led (G:Gs) (m:Nat) (e:Nat→Lv):Prop where
 lt:m < 900
 n:lkE e m=G.n
 b:∀ p:Nat,p < 8→blE e m p=G.b p
 v:∀ a:Nat,a < G.n→vlE e a m=G.v a
 g:∀ a:Nat,a < G.n→gvE e a m=G.gv a
 g0:∀ a:Nat,G.n≤a→gvE e a m=false
 k:suE e 3 (-1) m - suE e 4 (-1) m=G.k
def dH (G:Gs) (m:Nat) (e:Nat→Lv):Hp:=[(0,dgB G),(1,dcV G.n G.c),(2,D1 (.sl 3 [] 0 m 4)),(3,.ar 4 m fun j=>(e j).w)]
def dH2 (G:Gs) (m:Nat) (e:Nat→Lv):Hp:=[(0,dgV G.D G.l G.g G.s (.sl 4 [] 0 G.n 43) (.ptr 2 [])),(2,D1 (.sl 5 [] 0 m 4)),(4,dcV G.n G.c),(5,.ar 4 m fun j=>(e j).w)]
def Akg (e:Nat→Lv) (m:Nat) (x:Lv) (j:Nat):Lv:=if j < m then e j else x
theorem Ann {M:Seat} (ok:OkDg M) (G:Gs) (w:G.wf) (m:Nat) (e:Nat→Lv) (L:Led G m e) (a:Int) (df:Bool) (v:Dg) (pl:Int) (bd t:BitVec 64) (z:Int) (hz:G.mE a df v pl bd t=some z) :
 Ag M 141 [.ptr 0 [],.int .i64 a,.bool df,dg v,.int .i64 pl,W bd,W t] (dH G m e) 4 (Q3 (Ah (.int .i64 0) (.int .i64 z)) (dH G m e) 4):=by
 have hD:=w.hD
 have hn:=w.hn
 have hLm:=L.lt
 have hO:=Akp ok G a
 have hBf:=fun q hq=>Akk ok G q hq
 have hDo:=fun z=>Akz ok.l e m Aa ⟨3,pl,0,bd⟩ (.inl rfl) z
 have hDs:=Ako ok.l e m Aa ⟨3,pl,0,bd⟩ (.inl rfl)
 simp only [Lv.w,D1] at hDo hDs
 generalize hX:dH2 (G.mT a df v pl bd t) (m + 1) (Akg e m ⟨3,pl,0,bd⟩)=X
 unfold Gs.mE at hz
 refine Ab ok.k141 rfl fun x hx=>?_
 by_cases h1:a < 0 ∨ (G.n:Int)≤a
 ·rw [if_pos h1] at hz
  cases hz
  try
   rw [show Akl G a=4 from if_pos h1] at hO
   refine es 2000 ?_;(simp only [Al9,Al0,dH,dgV,dcV,Cl.d,D1,Lv.w,LZ,seval])
   have zz:=Ka @dgV.eq_1 @dcV.eq_1 @Cl.d.eq_1 @dg.eq_1;refine Bw [0,1,2] [0,1] (hO) ?_
   (simp only [dgV,dcV,Cl.d,seval,LZ,reduceCtorEq])
   have zz:=XK @Ah.eq_1 @dH.eq_1 @dgV.eq_1 @dcV.eq_1 @Cl.d.eq_1 @D1.eq_1 @Lv.w.eq_1 @dg.eq_1;exact Bf hx [0,1,2,3] ⟨rfl,rfl,rfl⟩
 rw [if_neg h1] at hz
 obtain ⟨p,rfl⟩:∃ p:Nat,a=p:=⟨a.toNat,by omega⟩
 have hp:p < G.n:=Aa
 rw [Int.toNat_natCast] at hz
 cases hrs:(G.c p).rs with
 | true =>
   rw [if_pos hrs] at hz
   cases hz
   try
    rw [show Akl G p=43 by unfold Akl;rw [if_neg h1,Int.toNat_natCast,hrs,if_pos rfl]] at hO
    refine es 2000 ?_;(simp only [Al9,Al0,dH,dgV,dcV,Cl.d,D1,Lv.w,LZ,seval])
    have zz:=Ka @dgV.eq_1 @dcV.eq_1 @Cl.d.eq_1 @dg.eq_1;refine Bw [0,1,2] [0,1] (hO) ?_
    (simp only [dgV,dcV,Cl.d,seval,LZ,reduceCtorEq])
    have zz:=XK @Ah.eq_1 @dH.eq_1 @dgV.eq_1 @dcV.eq_1 @Cl.d.eq_1 @D1.eq_1 @Lv.w.eq_1 @dg.eq_1;exact Bf hx [0,1,2,3] ⟨rfl,rfl,rfl⟩
 | false =>
 rw [if_neg (by rw [hrs];simp)] at hz
 rw [show Akl G p=0 by unfold Akl;rw [if_neg h1,Int.toNat_natCast,hrs,if_neg Am]] at hO
 obtain ⟨k,i,hk,hi,hpos⟩:=w.pls p hp
 have hdp:=Cr (show k≤24 by omega) hi
 have hmT:G.mT p df v pl bd t=G.mv (IE G p df v pl t k i) pl.toNat bd:=by rw [Gs.mT,Int.toNat_natCast,hpos,hdp,Ej Aa hi]
 rw [hpos,hdp,Ej Aa hi] at hz
 rw [hmT] at hX
 unfold Zs at hz
 have hBp:=hBf (G.c p) (Hk w.prs hp)
 simp only [Cl.d,hpos,hdp] at hBp
 have d1:((p:Int) < (G.n:Int))=True:=eq_true Aa
 have d2:(0≤(p:Int))=True:=eq_true Aa
 have hAt:=Alh ok.p (show k < 24 by omega) hi
 by_cases h2:G.D≤k
 ·rw [if_pos h2] at hz
  cases hz
  try
   have e2:((k:Int)=(G.D:Int))=True:=eq_true Aa
   refine es 2000 ?_;(simp only [Al9,Al0,dH,dgV,dcV,Cl.d,D1,Lv.w,LZ,seval])
   have zz:=Ka @dgV.eq_1 @dcV.eq_1 @Cl.d.eq_1 @dg.eq_1;refine Bw [0,1,2] [0,1] (hO) ?_
   (simp only [dgV,dcV,Cl.d,hpos,hdp,d1,d2,e2,seval,LZ,reduceCtorEq])
   repeat refine sd ?_
   have zz:=XK @Ah.eq_1 @dH.eq_1 @dgV.eq_1 @dcV.eq_1 @Cl.d.eq_1 @D1.eq_1 @Lv.w.eq_1 @dg.eq_1;exact Bf hx [0,1,2,3] ⟨rfl,rfl,rfl⟩
 rw [if_neg h2] at hz
 have e2:((k:Int)=(G.D:Int))=False:=eq_false Aa
 by_cases h3:df=true∧i + 1=2 ^ k
 ·rw [if_pos h3] at hz
  cases hz
  try
   have hDf:=Ak7 ok.p (show k < 24 by omega) h3.2
   obtain ⟨rfl,-⟩:=h3
   refine es 2000 ?_;(simp only [Al9,Al0,dH,dgV,dcV,Cl.d,D1,Lv.w,LZ,seval])
   have zz:=Ka @dgV.eq_1 @dcV.eq_1 @Cl.d.eq_1 @dg.eq_1;refine Bw [0,1,2] [0,1] (hO) ?_
   (simp only [dgV,dcV,Cl.d,hpos,hdp,d1,d2,e2,seval,LZ,reduceCtorEq])
   repeat refine sd ?_
   refine Ak (hAt) ?_
   (simp only [AH,seval])
   refine Ak (hDf) ?_
   (simp only [AH,seval])
   have zz:=XK @Ah.eq_1 @dH.eq_1 @dgV.eq_1 @dcV.eq_1 @Cl.d.eq_1 @D1.eq_1 @Lv.w.eq_1 @dg.eq_1;exact Bf hx [0,1,2,3] ⟨rfl,rfl,rfl⟩
 rw [if_neg h3] at hz
 have hDf:df=true→Ag M 267 [W (pw k i)] [] 0 (Q3 (Ah (W (pw (k + 1) (2 * i + 2))) (.int .i64 0)) [] 0):=fun h=>Ak8 ok.p (show k < 24 by omega) (Nat.lt_of_le_of_ne hi (fun q=>h3 ⟨h,q⟩))
 obtain ⟨q,hqd⟩:∃ q,Ks k i df=q:=⟨_,rfl⟩
 unfold IE at hX
 rw [hqd] at hz hX
 unfold Ks at hqd
 have zb:IntKind.i64.wrap ((k:Int) + 2)=((k + 2:Nat):Int):=AZ
 have zc:BitVec.ofInt 64 ((k + 2:Nat):Int)=BitVec.ofNat 64 (k + 2):=BitVec.ofInt_natCast _ _
 have zd:IntKind.i64.wrap ((k:Int) + 1)=((k + 1:Nat):Int):=AZ
 cases df
 all_goals
  simp only [Lbn] at hqd
  refine es 2000 ?_;(simp only [Al9,Al0,dH,dgV,dcV,Cl.d,D1,Lv.w,LZ,seval])
  have zz:=Ka @dgV.eq_1 @dcV.eq_1 @Cl.d.eq_1 @dg.eq_1;refine Bw [0,1,2] [0,1] (hO) ?_
  (simp only [dgV,dcV,Cl.d,hpos,hdp,d1,d2,e2,seval,LZ,reduceCtorEq])
  repeat refine sd ?_
  refine Ak (hAt) ?_
  (simp only [AH,zb,zc,hqd,seval])
  first
  | (refine Ak (hDf rfl) ?_
     (simp only [AH,zb,zc,hqd,seval]))
  | skip
  clear hDf hAt
  by_cases h4:bd=BitVec.ofNat 64 (k + 2)
  case' neg =>
   rw [if_pos h4] at hz
   cases hz
   try
    (simp only [h4,LZ,seval])
    have zz:=XK @Ah.eq_1 @dH.eq_1 @dgV.eq_1 @dcV.eq_1 @Cl.d.eq_1 @D1.eq_1 @Lv.w.eq_1 @dg.eq_1;exact Bf hx [0,1,2,3] ⟨rfl,rfl,rfl⟩
  rw [if_neg (fun h=>h h4)] at hz
  have h4':=eq_true h4
  (simp only [h4',LZ,seval])
  refine An (σ:=Nat) (fun j=>j≤G.n∧∀ i,i < j→¬ M4 (Sw p v pl) q (G.c i)) (fun j=>fr 167 [(0,.ptr 0 []),(1,.int .i64 p),(4,.int .i64 pl),(5,W bd),(6,W t),(10,.ptr 4 []),(17,.ptr 5 []),(18,W q),(19,.int .i64 j)]) (fun _=>dH G m e ++ [(4,dg v),(5,(G.c p).d)]) (fun _=>6) (fun j=>G.n - j) 0 ⟨by omega,fun i hi=>by omega⟩ ?_ ?_
  ·refine Ao.fr [0,1,2,3,4,260] [] hx AQ Am ?_ ?_
   ·simp only [Int.natCast_zero,LY,seval]
   ·simp only [dH,dgV,dcV,Cl.d,D1,Lv.w,hpos,hdp,dg,B3,LY,seval]
  ·rintro j ⟨hj,hno⟩
   refine es 2000 ?_
   by_cases hjn:j=G.n
   ·have w0:((j:Int) < (G.n:Int))=False:=eq_false Aa
    rw [if_neg (fun ⟨i,hi,hs⟩=>hno i Aa hs)] at hz
    (simp only [w0,dH,dgV,dcV,Cl.d,D1,Lv.w,hpos,hdp,B3,LZ,seval])
    have zz:=Db @dgV.eq_1 @dcV.eq_1 @Cl.d.eq_1 hpos hdp @dg.eq_1;refine L9 [0,1,2] [0,1] (hBp) ?_
    (simp only [dgV,dcV,Cl.d,LZ,seval])
    by_cases h5:Gy (G.c p).us (G.c p).at' (CQ G.c (G.c p)) t
    ·rw [if_pos h5] at hz
     cases hz
     try
      refine Bq (Aln ok.p G.l G.g (G.c p).us (G.c p).at' (CQ G.c (G.c p)) t w.hr h5) ?_
      (simp only [AH,seval])
      have zz:=XK @Ah.eq_1 @dH.eq_1 @dgV.eq_1 @dcV.eq_1 @Cl.d.eq_1 @D1.eq_1 @Lv.w.eq_1 @dg.eq_1;exact Bf hx [0,1,2,3] ⟨rfl,rfl,rfl⟩
    rw [if_neg h5] at hz
    by_cases h6:G.l≤CQ G.c (G.c p) + t - (G.c p).at'
    ·rw [if_pos h6] at hz
     cases hz
     try
      refine Bq (Alv ok.p G.l G.g (G.c p).us (G.c p).at' (CQ G.c (G.c p)) t w.hr h5 h6) ?_
      (simp only [AH,seval])
      have zz:=XK @Ah.eq_1 @dH.eq_1 @dgV.eq_1 @dcV.eq_1 @Cl.d.eq_1 @D1.eq_1 @Lv.w.eq_1 @dg.eq_1;exact Bf hx [0,1,2,3] ⟨rfl,rfl,rfl⟩
    rw [if_neg h6] at hz
    refine Bq (Alu ok.p G.l G.g (G.c p).us (G.c p).at' (CQ G.c (G.c p)) t w.hr h5 h6) ?_
    generalize YI (CQ G.c (G.c p) + t - (G.c p).at') (G.l - G.g)=u at *
    by_cases h7:64≤G.n
    ·rw [if_pos h7] at hz
     cases hz
     try
      have e7:((G.n:Int)=64)=True:=eq_true Aa
      (simp only [AH,e7,seval])
      have zz:=XK @Ah.eq_1 @dH.eq_1 @dgV.eq_1 @dcV.eq_1 @Cl.d.eq_1 @D1.eq_1 @Lv.w.eq_1 @dg.eq_1;exact Bf hx [0,1,2,3] ⟨rfl,rfl,rfl⟩
    rw [if_neg h7] at hz
    have e7:((G.n:Int)=64)=False:=eq_false Aa
    (simp only [AH,e7,seval])
    by_cases h8:pl < 0 ∨ 8≤pl
    ·rw [if_pos h8] at hz
     cases hz
     try
      have hd:=hDo 2 (by unfold doE;exact if_pos h8)
      have zz:=Bb @D1.eq_1 @Lv.w.eq_1;refine Bw [2,3] [2,3] (hd) ?_
      (simp only [AH,D1,Lv.w,seval])
      have zz:=XK @Ah.eq_1 @dH.eq_1 @dgV.eq_1 @dcV.eq_1 @Cl.d.eq_1 @D1.eq_1 @Lv.w.eq_1 @dg.eq_1;exact Bf hx [0,1,2,3] ⟨rfl,rfl,rfl⟩
    rw [if_neg h8] at hz
    obtain ⟨pp,rfl⟩:∃ pp:Nat,pl=pp:=⟨pl.toNat,by omega⟩
    rw [Int.toNat_natCast] at hz hX
    by_cases h9:G.b pp < bd
    ·rw [if_pos h9] at hz
     cases hz
     try
      have hd:=hDo 21 (by unfold doE;rw [if_neg h8,if_pos rfl];dsimp only;rw [L.b pp Aa,if_pos h9])
      have zz:=Bb @D1.eq_1 @Lv.w.eq_1;refine Bw [2,3] [2,3] (hd) ?_
      (simp only [AH,D1,Lv.w,seval])
      have zz:=XK @Ah.eq_1 @dH.eq_1 @dgV.eq_1 @dcV.eq_1 @Cl.d.eq_1 @D1.eq_1 @Lv.w.eq_1 @dg.eq_1;exact Bf hx [0,1,2,3] ⟨rfl,rfl,rfl⟩
    rw [if_neg h9] at hz
    cases hz
    try
     have hd:=hDs (by unfold doE;rw [if_neg h8,if_pos rfl];dsimp only;rw [L.b pp Aa,if_neg h9])
     rw [show doR e m ⟨3,pp,0,bd⟩=(G.n:Int) by rw [doR,if_pos rfl,L.n]] at hd
     have zn:IntKind.i64.wrap (((G.n + 1:Nat):Int) - 1)=(G.n:Int):=AZ
     have zz:=Bb @D1.eq_1 @Lv.w.eq_1;refine Bw [2,3] [2,3] (hd) ?_
     (simp only [AH,D1,Lv.w,zd,zn,seval,Nat.testBit,List.map_nil,List.map_cons,B3,reduceCtorEq])
     repeat refine sd ?_
     subst hX
     refine Ar.mk hx [0,1,2,3,1814,1062] [] (Ah (.int .i64 (G.n:Int)) (.int .i64 0)) _ 6 Am (by (simp only [CU,seval])) (by simp only [LV,Ah,LY,seval]) ?_ ⟨rfl,rfl,rfl⟩
     have hdq:Ia q=k + 1:=by
      have e2:2 ^ (k + 1)=2 * 2 ^ k:=Y6
      rw [← hqd]
      first
      | exact Cr Aa Aa
      | (have h3 : i + 1 ≠ 2 ^ k := fun h => h3 ⟨rfl, h⟩
         exact Cr Aa Aa)
     simp only [dH2,Gs.mv,Akg,doN,dgV,dcV,Cl.d,clN,D1,Lv.w,dg,LY,seval]
     intro j hj
     by_cases h:j < G.n
     ·simp only [h,if_true,LY,seval]
     ·obtain rfl:j=G.n:=Aa
      simp only [Nat.lt_irrefl,Nat.sub_self,CL,hdq,LY,seval]
   ·have w0:((j:Int) < (G.n:Int))=True:=eq_true Aa
    have w1:(0≤(j:Int))=True:=eq_true Aa
    have z1:IntKind.i64.wrap ((j:Int) + 1)=((j + 1:Nat):Int):=AZ
    by_cases hs:M4 (Sw p v pl) q (G.c j)
    ·rw [if_pos ⟨j,by omega,hs⟩] at hz
     cases hz
     try
      obtain ⟨g1,g2,g3⟩:=hs
      have g1:(G.c j).par=(p:Int):=g1
      have g3:(G.c j).val=v:=g3
      (simp only [w0,w1,dH,dgV,dcV,Cl.d,D1,Lv.w,hpos,hdp,g1,g2,g3,B3,LZ,seval])
      repeat refine sd ?_
      have zz:=XK @Ah.eq_1 @dH.eq_1 @dgV.eq_1 @dcV.eq_1 @Cl.d.eq_1 @D1.eq_1 @Lv.w.eq_1 @dg.eq_1;exact Bf hx [0,1,2,3] ⟨rfl,rfl,rfl⟩
    ·have hd:(((G.c j).par=(p:Int))=False) ∨ ((G.c j).par=(p:Int))=True∧((G.c j).pos=q)=False ∨ ((G.c j).par=(p:Int))=True∧((G.c j).pos=q)=True∧((G.c j).val=v)=False:=by
      by_cases g1:(G.c j).par=(p:Int)
      ·by_cases g2:(G.c j).pos=q
       ·exact .inr (.inr ⟨eq_true g1,eq_true g2,eq_false fun g3=>hs ⟨g1,g2,g3⟩⟩)
       ·exact .inr (.inl ⟨eq_true g1,eq_false g2⟩)
      ·exact .inl (eq_false g1)
     have hno':∀ i,i < j + 1→¬ M4 (Sw p v pl) q (G.c i):=fun i hi=>by
      by_cases hij:i=j
      ·rw [hij];exact hs
      ·exact hno i Aa
     rcases hd with g | g | g
     all_goals
      (simp only [w0,w1,dH,dgV,dcV,Cl.d,D1,Lv.w,hpos,hdp,g,z1,B3,LZ,seval])
      repeat refine sd ?_
      refine ⟨j + 1,by omega,hno',by omega,?_⟩
      refine Ao.fr [0,1,2,3,4,5] [] hx AQ Am ?_ ?_
      ·simp only [LY,seval]
      ·simp only [dH,dgV,dcV,Cl.d,D1,Lv.w,hpos,hdp,dg,B3,LY,seval]
theorem Ani {M:Seat} (ok:OkDg M) (G:Gs) (w:G.wf) (m:Nat) (e:Nat→Lv) (L:Led G m e) (a:Int) (df:Bool) (v:Dg) (pl:Int) (bd t:BitVec 64) (hz:G.mE a df v pl bd t=none) :
 Ag M 141 [.ptr 0 [],.int .i64 a,.bool df,dg v,.int .i64 pl,W bd,W t] (dH G m e) 4 (Q3 (Ah (.int .i64 (G.n:Int)) (.int .i64 0)) (dH2 (G.mT a df v pl bd t) (m + 1) (Akg e m ⟨3,pl,0,bd⟩)) 6):=by
 have hD:=w.hD
 have hn:=w.hn
 have hLm:=L.lt
 have hO:=Akp ok G a
 have hBf:=fun q hq=>Akk ok G q hq
 have hDo:=fun z=>Akz ok.l e m Aa ⟨3,pl,0,bd⟩ (.inl rfl) z
 have hDs:=Ako ok.l e m Aa ⟨3,pl,0,bd⟩ (.inl rfl)
 simp only [Lv.w,D1] at hDo hDs
 generalize hX:dH2 (G.mT a df v pl bd t) (m + 1) (Akg e m ⟨3,pl,0,bd⟩)=X
 unfold Gs.mE at hz
 refine Ab ok.k141 rfl fun x hx=>?_
 by_cases h1:a < 0 ∨ (G.n:Int)≤a
 ·rw [if_pos h1] at hz
  cases hz
  try
   rw [show Akl G a=4 from if_pos h1] at hO
   refine es 2000 ?_;(simp only [Al9,Al0,dH,dgV,dcV,Cl.d,D1,Lv.w,LZ,seval])
   have zz:=Ka @dgV.eq_1 @dcV.eq_1 @Cl.d.eq_1 @dg.eq_1;refine Bw [0,1,2] [0,1] (hO) ?_
   (simp only [dgV,dcV,Cl.d,seval,LZ,reduceCtorEq])
   have zz:=XK @Ah.eq_1 @dH.eq_1 @dgV.eq_1 @dcV.eq_1 @Cl.d.eq_1 @D1.eq_1 @Lv.w.eq_1 @dg.eq_1;exact Bf hx [0,1,2,3] ⟨rfl,rfl,rfl⟩
 rw [if_neg h1] at hz
 obtain ⟨p,rfl⟩:∃ p:Nat,a=p:=⟨a.toNat,by omega⟩
 have hp:p < G.n:=Aa
 rw [Int.toNat_natCast] at hz
 cases hrs:(G.c p).rs with
 | true =>
   rw [if_pos hrs] at hz
   cases hz
   try
    rw [show Akl G p=43 by unfold Akl;rw [if_neg h1,Int.toNat_natCast,hrs,if_pos rfl]] at hO
    refine es 2000 ?_;(simp only [Al9,Al0,dH,dgV,dcV,Cl.d,D1,Lv.w,LZ,seval])
    have zz:=Ka @dgV.eq_1 @dcV.eq_1 @Cl.d.eq_1 @dg.eq_1;refine Bw [0,1,2] [0,1] (hO) ?_
    (simp only [dgV,dcV,Cl.d,seval,LZ,reduceCtorEq])
    have zz:=XK @Ah.eq_1 @dH.eq_1 @dgV.eq_1 @dcV.eq_1 @Cl.d.eq_1 @D1.eq_1 @Lv.w.eq_1 @dg.eq_1;exact Bf hx [0,1,2,3] ⟨rfl,rfl,rfl⟩
 | false =>
 rw [if_neg (by rw [hrs];simp)] at hz
 rw [show Akl G p=0 by unfold Akl;rw [if_neg h1,Int.toNat_natCast,hrs,if_neg Am]] at hO
 obtain ⟨k,i,hk,hi,hpos⟩:=w.pls p hp
 have hdp:=Cr (show k≤24 by omega) hi
 have hmT:G.mT p df v pl bd t=G.mv (IE G p df v pl t k i) pl.toNat bd:=by rw [Gs.mT,Int.toNat_natCast,hpos,hdp,Ej Aa hi]
 rw [hpos,hdp,Ej Aa hi] at hz
 rw [hmT] at hX
 unfold Zs at hz
 have hBp:=hBf (G.c p) (Hk w.prs hp)
 simp only [Cl.d,hpos,hdp] at hBp
 have d1:((p:Int) < (G.n:Int))=True:=eq_true Aa
 have d2:(0≤(p:Int))=True:=eq_true Aa
 have hAt:=Alh ok.p (show k < 24 by omega) hi
 by_cases h2:G.D≤k
 ·rw [if_pos h2] at hz
  cases hz
  try
   have e2:((k:Int)=(G.D:Int))=True:=eq_true Aa
   refine es 2000 ?_;(simp only [Al9,Al0,dH,dgV,dcV,Cl.d,D1,Lv.w,LZ,seval])
   have zz:=Ka @dgV.eq_1 @dcV.eq_1 @Cl.d.eq_1 @dg.eq_1;refine Bw [0,1,2] [0,1] (hO) ?_
   (simp only [dgV,dcV,Cl.d,hpos,hdp,d1,d2,e2,seval,LZ,reduceCtorEq])
   repeat refine sd ?_
   have zz:=XK @Ah.eq_1 @dH.eq_1 @dgV.eq_1 @dcV.eq_1 @Cl.d.eq_1 @D1.eq_1 @Lv.w.eq_1 @dg.eq_1;exact Bf hx [0,1,2,3] ⟨rfl,rfl,rfl⟩
 rw [if_neg h2] at hz
 have e2:((k:Int)=(G.D:Int))=False:=eq_false Aa
 by_cases h3:df=true∧i + 1=2 ^ k
 ·rw [if_pos h3] at hz
  cases hz
  try
   have hDf:=Ak7 ok.p (show k < 24 by omega) h3.2
   obtain ⟨rfl,-⟩:=h3
   refine es 2000 ?_;(simp only [Al9,Al0,dH,dgV,dcV,Cl.d,D1,Lv.w,LZ,seval])
   have zz:=Ka @dgV.eq_1 @dcV.eq_1 @Cl.d.eq_1 @dg.eq_1;refine Bw [0,1,2] [0,1] (hO) ?_
   (simp only [dgV,dcV,Cl.d,hpos,hdp,d1,d2,e2,seval,LZ,reduceCtorEq])
   repeat refine sd ?_
   refine Ak (hAt) ?_
   (simp only [AH,seval])
   refine Ak (hDf) ?_
   (simp only [AH,seval])
   have zz:=XK @Ah.eq_1 @dH.eq_1 @dgV.eq_1 @dcV.eq_1 @Cl.d.eq_1 @D1.eq_1 @Lv.w.eq_1 @dg.eq_1;exact Bf hx [0,1,2,3] ⟨rfl,rfl,rfl⟩
 rw [if_neg h3] at hz
 have hDf:df=true→Ag M 267 [W (pw k i)] [] 0 (Q3 (Ah (W (pw (k + 1) (2 * i + 2))) (.int .i64 0)) [] 0):=fun h=>Ak8 ok.p (show k < 24 by omega) (Nat.lt_of_le_of_ne hi (fun q=>h3 ⟨h,q⟩))
 obtain ⟨q,hqd⟩:∃ q,Ks k i df=q:=⟨_,rfl⟩
 unfold IE at hX
 rw [hqd] at hz hX
 unfold Ks at hqd
 have zb:IntKind.i64.wrap ((k:Int) + 2)=((k + 2:Nat):Int):=AZ
 have zc:BitVec.ofInt 64 ((k + 2:Nat):Int)=BitVec.ofNat 64 (k + 2):=BitVec.ofInt_natCast _ _
 have zd:IntKind.i64.wrap ((k:Int) + 1)=((k + 1:Nat):Int):=AZ
 cases df
 all_goals
  simp only [Lbn] at hqd
  refine es 2000 ?_;(simp only [Al9,Al0,dH,dgV,dcV,Cl.d,D1,Lv.w,LZ,seval])
  have zz:=Ka @dgV.eq_1 @dcV.eq_1 @Cl.d.eq_1 @dg.eq_1;refine Bw [0,1,2] [0,1] (hO) ?_
  (simp only [dgV,dcV,Cl.d,hpos,hdp,d1,d2,e2,seval,LZ,reduceCtorEq])
  repeat refine sd ?_
  refine Ak (hAt) ?_
  (simp only [AH,zb,zc,hqd,seval])
  first
  | (refine Ak (hDf rfl) ?_
     (simp only [AH,zb,zc,hqd,seval]))
  | skip
  clear hDf hAt
  by_cases h4:bd=BitVec.ofNat 64 (k + 2)
  case' neg =>
   rw [if_pos h4] at hz
   cases hz
   try
    (simp only [h4,LZ,seval])
    have zz:=XK @Ah.eq_1 @dH.eq_1 @dgV.eq_1 @dcV.eq_1 @Cl.d.eq_1 @D1.eq_1 @Lv.w.eq_1 @dg.eq_1;exact Bf hx [0,1,2,3] ⟨rfl,rfl,rfl⟩
  rw [if_neg (fun h=>h h4)] at hz
  have h4':=eq_true h4
  (simp only [h4',LZ,seval])
  refine An (σ:=Nat) (fun j=>j≤G.n∧∀ i,i < j→¬ M4 (Sw p v pl) q (G.c i)) (fun j=>fr 167 [(0,.ptr 0 []),(1,.int .i64 p),(4,.int .i64 pl),(5,W bd),(6,W t),(10,.ptr 4 []),(17,.ptr 5 []),(18,W q),(19,.int .i64 j)]) (fun _=>dH G m e ++ [(4,dg v),(5,(G.c p).d)]) (fun _=>6) (fun j=>G.n - j) 0 ⟨by omega,fun i hi=>by omega⟩ ?_ ?_
  ·refine Ao.fr [0,1,2,3,4,260] [] hx AQ Am ?_ ?_
   ·simp only [Int.natCast_zero,LY,seval]
   ·simp only [dH,dgV,dcV,Cl.d,D1,Lv.w,hpos,hdp,dg,B3,LY,seval]
  ·rintro j ⟨hj,hno⟩
   refine es 2000 ?_
   by_cases hjn:j=G.n
   ·have w0:((j:Int) < (G.n:Int))=False:=eq_false Aa
    rw [if_neg (fun ⟨i,hi,hs⟩=>hno i Aa hs)] at hz
    (simp only [w0,dH,dgV,dcV,Cl.d,D1,Lv.w,hpos,hdp,B3,LZ,seval])
    have zz:=Db @dgV.eq_1 @dcV.eq_1 @Cl.d.eq_1 hpos hdp @dg.eq_1;refine L9 [0,1,2] [0,1] (hBp) ?_
    (simp only [dgV,dcV,Cl.d,LZ,seval])
    by_cases h5:Gy (G.c p).us (G.c p).at' (CQ G.c (G.c p)) t
    ·rw [if_pos h5] at hz
     cases hz
     try
      refine Bq (Aln ok.p G.l G.g (G.c p).us (G.c p).at' (CQ G.c (G.c p)) t w.hr h5) ?_
      (simp only [AH,seval])
      have zz:=XK @Ah.eq_1 @dH.eq_1 @dgV.eq_1 @dcV.eq_1 @Cl.d.eq_1 @D1.eq_1 @Lv.w.eq_1 @dg.eq_1;exact Bf hx [0,1,2,3] ⟨rfl,rfl,rfl⟩
    rw [if_neg h5] at hz
    by_cases h6:G.l≤CQ G.c (G.c p) + t - (G.c p).at'
    ·rw [if_pos h6] at hz
     cases hz
     try
      refine Bq (Alv ok.p G.l G.g (G.c p).us (G.c p).at' (CQ G.c (G.c p)) t w.hr h5 h6) ?_
      (simp only [AH,seval])
      have zz:=XK @Ah.eq_1 @dH.eq_1 @dgV.eq_1 @dcV.eq_1 @Cl.d.eq_1 @D1.eq_1 @Lv.w.eq_1 @dg.eq_1;exact Bf hx [0,1,2,3] ⟨rfl,rfl,rfl⟩
    rw [if_neg h6] at hz
    refine Bq (Alu ok.p G.l G.g (G.c p).us (G.c p).at' (CQ G.c (G.c p)) t w.hr h5 h6) ?_
    generalize YI (CQ G.c (G.c p) + t - (G.c p).at') (G.l - G.g)=u at *
    by_cases h7:64≤G.n
    ·rw [if_pos h7] at hz
     cases hz
     try
      have e7:((G.n:Int)=64)=True:=eq_true Aa
      (simp only [AH,e7,seval])
      have zz:=XK @Ah.eq_1 @dH.eq_1 @dgV.eq_1 @dcV.eq_1 @Cl.d.eq_1 @D1.eq_1 @Lv.w.eq_1 @dg.eq_1;exact Bf hx [0,1,2,3] ⟨rfl,rfl,rfl⟩
    rw [if_neg h7] at hz
    have e7:((G.n:Int)=64)=False:=eq_false Aa
    (simp only [AH,e7,seval])
    by_cases h8:pl < 0 ∨ 8≤pl
    ·rw [if_pos h8] at hz
     cases hz
     try
      have hd:=hDo 2 (by unfold doE;exact if_pos h8)
      have zz:=Bb @D1.eq_1 @Lv.w.eq_1;refine Bw [2,3] [2,3] (hd) ?_
      (simp only [AH,D1,Lv.w,seval])
      have zz:=XK @Ah.eq_1 @dH.eq_1 @dgV.eq_1 @dcV.eq_1 @Cl.d.eq_1 @D1.eq_1 @Lv.w.eq_1 @dg.eq_1;exact Bf hx [0,1,2,3] ⟨rfl,rfl,rfl⟩
    rw [if_neg h8] at hz
    obtain ⟨pp,rfl⟩:∃ pp:Nat,pl=pp:=⟨pl.toNat,by omega⟩
    rw [Int.toNat_natCast] at hz hX
    by_cases h9:G.b pp < bd
    ·rw [if_pos h9] at hz
     cases hz
     try
      have hd:=hDo 21 (by unfold doE;rw [if_neg h8,if_pos rfl];dsimp only;rw [L.b pp Aa,if_pos h9])
      have zz:=Bb @D1.eq_1 @Lv.w.eq_1;refine Bw [2,3] [2,3] (hd) ?_
      (simp only [AH,D1,Lv.w,seval])
      have zz:=XK @Ah.eq_1 @dH.eq_1 @dgV.eq_1 @dcV.eq_1 @Cl.d.eq_1 @D1.eq_1 @Lv.w.eq_1 @dg.eq_1;exact Bf hx [0,1,2,3] ⟨rfl,rfl,rfl⟩
    rw [if_neg h9] at hz
    cases hz
    try
     have hd:=hDs (by unfold doE;rw [if_neg h8,if_pos rfl];dsimp only;rw [L.b pp Aa,if_neg h9])
     rw [show doR e m ⟨3,pp,0,bd⟩=(G.n:Int) by rw [doR,if_pos rfl,L.n]] at hd
     have zn:IntKind.i64.wrap (((G.n + 1:Nat):Int) - 1)=(G.n:Int):=AZ
     have zz:=Bb @D1.eq_1 @Lv.w.eq_1;refine Bw [2,3] [2,3] (hd) ?_
     (simp only [AH,D1,Lv.w,zd,zn,seval,Nat.testBit,List.map_nil,List.map_cons,B3,reduceCtorEq])
     repeat refine sd ?_
     subst hX
     refine Ar.mk hx [0,1,2,3,1814,1062] [] (Ah (.int .i64 (G.n:Int)) (.int .i64 0)) _ 6 Am (by (simp only [CU,seval])) (by simp only [LV,Ah,LY,seval]) ?_ ⟨rfl,rfl,rfl⟩
     have hdq:Ia q=k + 1:=by
      have e2:2 ^ (k + 1)=2 * 2 ^ k:=Y6
      rw [← hqd]
      first
      | exact Cr Aa Aa
      | (have h3 : i + 1 ≠ 2 ^ k := fun h => h3 ⟨rfl, h⟩
         exact Cr Aa Aa)
     simp only [dH2,Gs.mv,Akg,doN,dgV,dcV,Cl.d,clN,D1,Lv.w,dg,LY,seval]
     intro j hj
     by_cases h:j < G.n
     ·simp only [h,if_true,LY,seval]
     ·obtain rfl:j=G.n:=Aa
      simp only [Nat.lt_irrefl,Nat.sub_self,CL,hdq,LY,seval]
   ·have w0:((j:Int) < (G.n:Int))=True:=eq_true Aa
    have w1:(0≤(j:Int))=True:=eq_true Aa
    have z1:IntKind.i64.wrap ((j:Int) + 1)=((j + 1:Nat):Int):=AZ
    by_cases hs:M4 (Sw p v pl) q (G.c j)
    ·rw [if_pos ⟨j,by omega,hs⟩] at hz
     cases hz
     try
      obtain ⟨g1,g2,g3⟩:=hs
      have g1:(G.c j).par=(p:Int):=g1
      have g3:(G.c j).val=v:=g3
      (simp only [w0,w1,dH,dgV,dcV,Cl.d,D1,Lv.w,hpos,hdp,g1,g2,g3,B3,LZ,seval])
      repeat refine sd ?_
      have zz:=XK @Ah.eq_1 @dH.eq_1 @dgV.eq_1 @dcV.eq_1 @Cl.d.eq_1 @D1.eq_1 @Lv.w.eq_1 @dg.eq_1;exact Bf hx [0,1,2,3] ⟨rfl,rfl,rfl⟩
    ·have hd:(((G.c j).par=(p:Int))=False) ∨ ((G.c j).par=(p:Int))=True∧((G.c j).pos=q)=False ∨ ((G.c j).par=(p:Int))=True∧((G.c j).pos=q)=True∧((G.c j).val=v)=False:=by
      by_cases g1:(G.c j).par=(p:Int)
      ·by_cases g2:(G.c j).pos=q
       ·exact .inr (.inr ⟨eq_true g1,eq_true g2,eq_false fun g3=>hs ⟨g1,g2,g3⟩⟩)
       ·exact .inr (.inl ⟨eq_true g1,eq_false g2⟩)
      ·exact .inl (eq_false g1)
     have hno':∀ i,i < j + 1→¬ M4 (Sw p v pl) q (G.c i):=fun i hi=>by
      by_cases hij:i=j
      ·rw [hij];exact hs
      ·exact hno i Aa
     rcases hd with g | g | g
     all_goals
      (simp only [w0,w1,dH,dgV,dcV,Cl.d,D1,Lv.w,hpos,hdp,g,z1,B3,LZ,seval])
      repeat refine sd ?_
      refine ⟨j + 1,by omega,hno',by omega,?_⟩
      refine Ao.fr [0,1,2,3,4,5] [] hx AQ Am ?_ ?_
      ·simp only [LY,seval]
      ·simp only [dH,dgV,dcV,Cl.d,D1,Lv.w,hpos,hdp,dg,B3,LY,seval]
end Mv
