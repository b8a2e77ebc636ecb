/- A part. -/
import Derived.Test.YtpcgkiecjakknaaGreatDoorFM
set_option linter.all false
set_option maxRecDepth 20000
set_option maxHeartbeats 16000000
namespace Mv
open Go
theorem dvE {d e:Nat} (h:d≤e):(((d:Nat):Int) - ((e:Nat):Int)).tmod 2=0 ↔ (e - d) % 2=0:=by
 have:((d:Int) - (e:Int)) = -(((e - d:Nat):Int)):=Aa
 rw [this,Int.neg_tmod]
 have e0:((e - d:Nat):Int).tmod 2=(((e - d) % 2:Nat):Int):=rfl
 rw [e0];omega
theorem Anl {M:Seat} (ok:OkDg M) (G:Gs) (w:G.wf) (m:Nat) (e:Nat→Lv) (vf:Dg→Dg × Option Int) (a:Int) (df:Bool) (pl:Int) (t:BitVec 64) (nx:Dg) (why:Int)
 (hvf:∀ p:Nat,a=p→p < G.n→Ia (G.c p).pos=G.D→¬ (df=true∧G.enJ p=none)→(why=0 ↔ (vf (G.sA p df)).2=none)∧((vf (G.sA p df)).2=none→(vf (G.sA p df)).1=nx)∧∀ z,(vf (G.sA p df)).2=some z→why=z) :
 (∀ z,G.tE vf a df pl t=some z→Ag M 145 [.ptr 0 [],.int .i64 a,.bool df,.int .i64 pl,W t,dg nx,.int .i64 why] (dH G m e) 4 (Q3 (.int .i64 z) (dH G m e) 4)) ∧
 (G.tE vf a df pl t=none→Ag M 145 [.ptr 0 [],.int .i64 a,.bool df,.int .i64 pl,W t,dg nx,.int .i64 why] (dH G m e) 4 (Q3 (.int .i64 0) (dH (G.tT a pl) m e) 4)):=by
 have hD:=w.hD
 have hn:=w.hn
 have hO:=Akp ok G a
 unfold Gs.tE
 by_cases h1:a < 0 ∨ (G.n:Int)≤a
 ·rw [if_pos h1]
  refine ⟨fun z hz=>?_,fun h=>by cases h⟩
  cases hz
  rw [show Akl G a=4 from if_pos h1] at hO
  refine Ab ok.k145 rfl fun x hx=>?_
  refine es 2000 ?_;(simp only [Al4,Ama,dH,dgV,dcV,Cl.d,D1,Lv.w,LZ,seval])
  have zz:=Ka @dgV.eq_1 @dcV.eq_1 @Cl.d.eq_1 @dg.eq_1;refine Bw [0,1,2] [0,1] (hO) ?_
  (simp only [dgV,dcV,Cl.d,seval,LZ,reduceCtorEq])
  have zz:=aq7 @dH.eq_1 @dgV.eq_1 @dcV.eq_1 @Cl.d.eq_1 @D1.eq_1 @Lv.w.eq_1 @dg.eq_1;exact Bf hx [0,1,2,3] ⟨rfl,rfl,rfl⟩
 rw [if_neg h1]
 obtain ⟨p,rfl⟩:∃ p:Nat,a=p:=⟨a.toNat,by omega⟩
 have hp:p < G.n:=Aa
 rw [Int.toNat_natCast]
 have hvf:=hvf p rfl hp
 cases hrs:(G.c p).rs with
 | true =>
   rw [if_pos rfl]
   refine ⟨fun z hz=>?_,fun h=>by cases h⟩
   cases hz
   rw [show Akl G p=43 by unfold Akl;rw [if_neg h1,Int.toNat_natCast,hrs,if_pos rfl]] at hO
   refine Ab ok.k145 rfl fun x hx=>?_
   refine es 2000 ?_;(simp only [Al4,Ama,dH,dgV,dcV,Cl.d,D1,Lv.w,LZ,seval])
   have zz:=Ka @dgV.eq_1 @dcV.eq_1 @Cl.d.eq_1 @dg.eq_1;refine Bw [0,1,2] [0,1] (hO) ?_
   (simp only [dgV,dcV,Cl.d,seval,LZ,reduceCtorEq])
   have zz:=aq7 @dH.eq_1 @dgV.eq_1 @dcV.eq_1 @Cl.d.eq_1 @D1.eq_1 @Lv.w.eq_1 @dg.eq_1;exact Bf hx [0,1,2,3] ⟨rfl,rfl,rfl⟩
 | false =>
 rw [if_neg Am]
 rw [show Akl G p=0 by unfold Akl;rw [if_neg h1,Int.toNat_natCast,hrs,if_neg Am]] at hO
 obtain ⟨k,i,hk,hi,hpos⟩:=w.pls p hp
 have hdp:=Cr (show k≤24 by omega) hi
 have hEA:=Alo ok G w p hp
 have hED:=Alt ok G w p hp
 have hBp:=Akk ok G (G.c p) (Hk w.prs hp)
 have hjl:∀ j,G.enJ p=some j→Ia (G.c j).pos≤G.D:=fun j hj=>by
  obtain ⟨k2,i2,hk2,hi2,hpos2⟩:=w.pls j (PW w.prs _ _ _ _ hp hj).1
  rw [hpos2,Cr Aa hi2];exact hk2
 have d1:((p:Int) < (G.n:Int))=True:=eq_true Aa
 have d2:(0≤(p:Int))=True:=eq_true Aa
 have hT:G.tT p pl={ G with c:=fun j=>if j=p then { G.c p with st:=true,by':=pl } else G.c j }:=by rw [Gs.tT,Int.toNat_natCast]
 rw [hT]
 clear hT
 have hdp':Ia (G.c p).pos=k:=by rw [hpos];exact hdp
 unfold Gs.stE Gs.stP
 rw [hdp'] at hvf ⊢
 unfold Gs.denD at hED
 rw [hdp'] at hED
 have hcl:Cl.d (G.c p) = .st 43 (.fcons 0 (.int .i64 (G.c p).par) (.fcons 1 (.int .i64 (k:Nat)) (.fcons 2 (W (pw k i)) (.fcons 3 (dg (G.c p).val) (.fcons 35 (.int .i64 (G.c p).pl) (.fcons 36 (.int .i64 (G.c p).bond) (.fcons 37 (W (G.c p).us) (.fcons 38 (W (G.c p).at') (.fcons 39 (.bool (G.c p).st) (.fcons 40 (.bool (G.c p).rs) (.fcons 41 (.bool (G.c p).co) (.fcons 42 (.int .i64 (G.c p).by') .fnil)))))))))))):=by rw [Cl.d,hpos,hdp]
 simp only [hcl] at hBp
 by_cases h2:pl < 0 ∨ 8≤pl
 ·rw [if_pos h2]
  refine ⟨fun z hz=>?_,fun h=>by cases h⟩
  cases hz
  have f:((pl < 0)=True) ∨ ((pl < 0)=False∧(8≤pl)=True):=by
   by_cases h:pl < 0
   ·exact .inl (eq_true h)
   ·exact .inr ⟨eq_false h,eq_true Aa⟩
  refine Ab ok.k145 rfl fun x hx=>?_
  rcases f with f | f
  all_goals
   refine es 2000 ?_;(simp only [Al4,Ama,dH,dgV,dcV,Cl.d,D1,Lv.w,LZ,seval])
   have zz:=Ka @dgV.eq_1 @dcV.eq_1 @Cl.d.eq_1 @dg.eq_1;refine Bw [0,1,2] [0,1] (hO) ?_
   (simp only [dgV,dcV,Cl.d,hpos,hdp,d1,d2,f,seval,LZ,reduceCtorEq])
   repeat refine sd ?_
   have zz:=aq7 @dH.eq_1 @dgV.eq_1 @dcV.eq_1 @Cl.d.eq_1 @D1.eq_1 @Lv.w.eq_1 @dg.eq_1;exact Bf hx [0,1,2,3] ⟨rfl,rfl,rfl⟩
 rw [if_neg h2]
 have f0:(pl < 0)=False:=eq_false Aa
 have f1:(8≤pl)=False:=eq_false Aa
 by_cases h3:k=G.D
 case neg =>
  rw [if_pos h3]
  refine ⟨fun z hz=>?_,fun h=>by cases h⟩
  cases hz
  have e3:((k:Int)=(G.D:Int))=False:=eq_false Aa
  refine Ab ok.k145 rfl fun x hx=>?_
  refine es 2000 ?_;(simp only [Al4,Ama,dH,dgV,dcV,Cl.d,D1,Lv.w,LZ,seval])
  have zz:=Ka @dgV.eq_1 @dcV.eq_1 @Cl.d.eq_1 @dg.eq_1;refine Bw [0,1,2] [0,1] (hO) ?_
  (simp only [dgV,dcV,Cl.d,hpos,hdp,d1,d2,f0,f1,e3,seval,LZ,reduceCtorEq])
  repeat refine sd ?_
  have zz:=aq7 @dH.eq_1 @dgV.eq_1 @dcV.eq_1 @Cl.d.eq_1 @D1.eq_1 @Lv.w.eq_1 @dg.eq_1;exact Bf hx [0,1,2,3] ⟨rfl,rfl,rfl⟩
 rw [if_neg (fun h=>h h3)]
 have e3:((k:Int)=(G.D:Int))=True:=eq_true Aa
 by_cases h4:df=true∧G.enJ p=none
 ·rw [if_pos h4]
  refine ⟨fun z hz=>?_,fun h=>by cases h⟩
  cases hz
  obtain ⟨rfl,hj⟩:=h4
  rw [hj] at hED
  refine Ab ok.k145 rfl fun x hx=>?_
  refine es 2000 ?_;(simp only [Al4,Ama,dH,dgV,dcV,Cl.d,D1,Lv.w,LZ,seval])
  have zz:=Ka @dgV.eq_1 @dcV.eq_1 @Cl.d.eq_1 @dg.eq_1;refine Bw [0,1,2] [0,1] (hO) ?_
  (simp only [dgV,dcV,Cl.d,hpos,hdp,d1,d2,f0,f1,e3,seval,LZ,reduceCtorEq])
  repeat refine sd ?_
  have zz:=Db @dgV.eq_1 @dcV.eq_1 @Cl.d.eq_1 hpos hdp @dg.eq_1;refine Bw [0,1,2] [0,1] (hED) ?_
  (simp only [HT,dgV,dcV,Cl.d,seval,LZ,reduceCtorEq])
  have zz:=aq7 @dH.eq_1 @dgV.eq_1 @dcV.eq_1 @Cl.d.eq_1 @D1.eq_1 @Lv.w.eq_1 @dg.eq_1;exact Bf hx [0,1,2,3] ⟨rfl,rfl,rfl⟩
 rw [if_neg h4]
 have hvf:=hvf h3 h4
 obtain ⟨B,one,hone,hEn⟩:∃ B one,(one=true ↔ (G.D - G.sD p df) % 2=0)∧B=G.sB p df∧(Ag M 143 [.ptr 0 [],.int .i64 p,.bool df] [(0,dgB G),(1,dcV G.n G.c)] 3 (Q3 (HT (dg (G.sA p df)) (dg B) (.bool one) (.int .i64 0)) [(0,dgB G),(1,dcV G.n G.c)] 3)):=by
  cases df with
  | false=>exact ⟨_,true,by simp [Gs.sD],rfl,by rw [Gs.sA,Gs.sB];exact hEA⟩
  | true =>
    cases hj:G.enJ p with
    | none=>exact absurd ⟨rfl,hj⟩ h4
    | some j =>
      rw [hj] at hED
      have e1:G.jv p=j:=by rw [Gs.jv,hj];rfl
      refine ⟨_,decide ((((Ia (G.c j).pos:Nat):Int) - ((k:Nat):Int)).tmod 2=0),?_,rfl,?_⟩
      ·rw [decide_eq_true_iff,Gs.sD,if_pos rfl,e1,h3];exact dvE (hjl j hj)
      ·rw [Gs.sA,Gs.sB,if_pos rfl,if_pos rfl,e1];exact hED
 obtain ⟨hB,hEn⟩:=hEn
 clear hEA hED
 generalize G.sA p df=A at *
 rw [← hB]
 generalize CQ G.c (G.c p)=u at *
 cases hst:(G.c p).st with
 | true =>
   rw [if_pos rfl]
   refine ⟨fun z hz=>?_,fun h=>by cases h⟩
   cases hz
   refine Ab ok.k145 rfl fun x hx=>?_
   refine es 2000 ?_;(simp only [Al4,Ama,dH,dgV,dcV,Cl.d,D1,Lv.w,LZ,seval])
   have zz:=Ka @dgV.eq_1 @dcV.eq_1 @Cl.d.eq_1 @dg.eq_1;refine Bw [0,1,2] [0,1] (hO) ?_
   (simp only [dgV,dcV,Cl.d,hpos,hdp,d1,d2,f0,f1,e3,seval,LZ,reduceCtorEq])
   repeat refine sd ?_
   have zz:=Db @dgV.eq_1 @dcV.eq_1 @Cl.d.eq_1 hpos hdp @dg.eq_1;refine Bw [0,1,2] [0,1] (hEn) ?_
   (simp only [HT,dgV,dcV,Cl.d,hst,seval,LZ,reduceCtorEq])
   have zz:=XK @dH.eq_1 @dgV.eq_1 @dcV.eq_1 @Cl.d.eq_1 @D1.eq_1 @Lv.w.eq_1 @dg.eq_1 hst;exact Bf hx [0,1,2,3] ⟨rfl,rfl,rfl⟩
 | false =>
 rw [if_neg Am]
 rw [hst] at hBp
 by_cases h5:Gy (G.c p).us (G.c p).at' u t
 ·rw [if_pos h5]
  refine ⟨fun z hz=>?_,fun h=>by cases h⟩
  cases hz
  have hS:=Akn ok.p _ _ _ _ h5
  refine Ab ok.k145 rfl fun x hx=>?_
  refine es 2000 ?_;(simp only [Al4,Ama,dH,dgV,dcV,Cl.d,D1,Lv.w,LZ,seval])
  have zz:=Ka @dgV.eq_1 @dcV.eq_1 @Cl.d.eq_1 @dg.eq_1;refine Bw [0,1,2] [0,1] (hO) ?_
  (simp only [dgV,dcV,Cl.d,hpos,hdp,d1,d2,f0,f1,e3,seval,LZ,reduceCtorEq])
  repeat refine sd ?_
  have zz:=Db @dgV.eq_1 @dcV.eq_1 @Cl.d.eq_1 hpos hdp @dg.eq_1;refine Bw [0,1,2] [0,1] (hEn) ?_
  (simp only [HT,dgV,dcV,Cl.d,hst,seval,LZ,reduceCtorEq])
  have zz:=aq7 @dgV.eq_1 @dcV.eq_1 @Cl.d.eq_1 hpos hdp hst @dg.eq_1;refine L9 [0,1,2] [0,1] (hBp) ?_
  (simp only [dgV,dcV,Cl.d,LZ,seval])
  refine Bq (hS) ?_
  (simp only [AH,seval])
  have zz:=XK @dH.eq_1 @dgV.eq_1 @dcV.eq_1 @Cl.d.eq_1 @D1.eq_1 @Lv.w.eq_1 @dg.eq_1 hst;exact Bf hx [0,1,2,3] ⟨rfl,rfl,rfl⟩
 rw [if_neg h5]
 have hS:=Aki ok.p _ _ _ _ h5
 by_cases h6:G.l≤u + t - (G.c p).at'
 ·rw [if_pos h6]
  refine ⟨fun z hz=>?_,fun h=>by cases h⟩
  cases hz
  have h6:=eq_true h6
  refine Ab ok.k145 rfl fun x hx=>?_
  refine es 2000 ?_;(simp only [Al4,Ama,dH,dgV,dcV,Cl.d,D1,Lv.w,LZ,seval])
  have zz:=Ka @dgV.eq_1 @dcV.eq_1 @Cl.d.eq_1 @dg.eq_1;refine Bw [0,1,2] [0,1] (hO) ?_
  (simp only [dgV,dcV,Cl.d,hpos,hdp,d1,d2,f0,f1,e3,seval,LZ,reduceCtorEq])
  repeat refine sd ?_
  have zz:=Db @dgV.eq_1 @dcV.eq_1 @Cl.d.eq_1 hpos hdp @dg.eq_1;refine Bw [0,1,2] [0,1] (hEn) ?_
  (simp only [HT,dgV,dcV,Cl.d,hst,seval,LZ,reduceCtorEq])
  have zz:=aq7 @dgV.eq_1 @dcV.eq_1 @Cl.d.eq_1 hpos hdp hst @dg.eq_1;refine L9 [0,1,2] [0,1] (hBp) ?_
  (simp only [dgV,dcV,Cl.d,LZ,seval])
  refine Bq (hS) ?_
  (simp only [AH,h6,seval])
  have zz:=XK @dH.eq_1 @dgV.eq_1 @dcV.eq_1 @Cl.d.eq_1 @D1.eq_1 @Lv.w.eq_1 @dg.eq_1 hst;exact Bf hx [0,1,2,3] ⟨rfl,rfl,rfl⟩
 rw [if_neg h6]
 have h6:=eq_false h6
 dsimp only
 obtain ⟨hw1,hw2,hw3⟩:=hvf
 cases hv:vf A with
 | mk nxq ve =>
 rw [hv] at hw1 hw2 hw3
 dsimp only at hw1 hw2 hw3 ⊢
 cases ve with
 | some z0 =>
   have hz0:=hw3 z0 rfl
   have hwne:(why=0)=False:=eq_false (fun h=>by have:=hw1.1 h;cases this)
   refine ⟨fun z hz=>?_,fun h=>by cases h⟩
   cases hz
   rw [hz0] at hwne ⊢
   refine Ab ok.k145 rfl fun x hx=>?_
   refine es 2000 ?_;(simp only [Al4,Ama,dH,dgV,dcV,Cl.d,D1,Lv.w,LZ,seval])
   have zz:=Ka @dgV.eq_1 @dcV.eq_1 @Cl.d.eq_1 @dg.eq_1;refine Bw [0,1,2] [0,1] (hO) ?_
   (simp only [dgV,dcV,Cl.d,hpos,hdp,d1,d2,f0,f1,e3,seval,LZ,reduceCtorEq])
   repeat refine sd ?_
   have zz:=Db @dgV.eq_1 @dcV.eq_1 @Cl.d.eq_1 hpos hdp @dg.eq_1;refine Bw [0,1,2] [0,1] (hEn) ?_
   (simp only [HT,dgV,dcV,Cl.d,hst,seval,LZ,reduceCtorEq])
   have zz:=aq7 @dgV.eq_1 @dcV.eq_1 @Cl.d.eq_1 hpos hdp hst @dg.eq_1;refine L9 [0,1,2] [0,1] (hBp) ?_
   (simp only [dgV,dcV,Cl.d,LZ,seval])
   refine Bq (hS) ?_
   (simp only [AH,h6,hwne,seval])
   have zz:=XK @dH.eq_1 @dgV.eq_1 @dcV.eq_1 @Cl.d.eq_1 @D1.eq_1 @Lv.w.eq_1 @dg.eq_1 hst;exact Bf hx [0,1,2,3] ⟨rfl,rfl,rfl⟩
 | none =>
   have hw0:=hw1.2 rfl
   have hnx:=hw2 rfl
   subst hw0 hnx
   by_cases h7:nxq=B <;> cases one
   all_goals
    simp only [Bool.false_eq_true,false_iff,true_iff] at hone
   case' pos.false=>rw [if_neg (fun h=>hone (h.1 h7))]
   case' pos.true=>rw [if_pos ⟨fun _=>hone,fun _=>h7⟩]
   case' neg.false=>rw [if_pos ⟨fun h=>absurd h h7,fun h=>absurd h hone⟩]
   case' neg.true=>rw [if_neg (fun h=>h7 (h.2 hone))]
   all_goals
    refine ⟨fun z hz=>?_,fun hz=>?_⟩
    all_goals
     cases hz
     try
      refine Ab ok.k145 rfl fun x hx=>?_
      refine es 2000 ?_;(simp only [Al4,Ama,dH,dgV,dcV,Cl.d,D1,Lv.w,LZ,seval])
      have zz:=Ka @dgV.eq_1 @dcV.eq_1 @Cl.d.eq_1 @dg.eq_1;refine Bw [0,1,2] [0,1] (hO) ?_
      (simp only [dgV,dcV,Cl.d,hpos,hdp,d1,d2,f0,f1,e3,seval,LZ,reduceCtorEq])
      repeat refine sd ?_
      have zz:=Db @dgV.eq_1 @dcV.eq_1 @Cl.d.eq_1 hpos hdp @dg.eq_1;refine Bw [0,1,2] [0,1] (hEn) ?_
      (simp only [HT,dgV,dcV,Cl.d,hst,seval,LZ,reduceCtorEq])
      have zz:=aq7 @dgV.eq_1 @dcV.eq_1 @Cl.d.eq_1 hpos hdp hst @dg.eq_1;refine L9 [0,1,2] [0,1] (hBp) ?_
      (simp only [dgV,dcV,Cl.d,LZ,seval])
      refine Bq (hS) ?_
      first | (simp only [AH,h6,h7,d1,d2,hst,seval]) | skip
      try repeat refine sd ?_
      first
      | ((have zz:=XK @dH.eq_1 @dgV.eq_1 @dcV.eq_1 @Cl.d.eq_1 @D1.eq_1 @Lv.w.eq_1 @dg.eq_1 hst;exact Bf hx [0,1,2,3] ⟨rfl,rfl,rfl⟩))
      | (refine Ar.mk hx [0, 1, 2, 3] [] (.int .i64 0) _ 4 Am (by (simp only [CU, seval])) (by simp only [LV, LY, seval]) ?_ ⟨rfl, rfl, rfl⟩
         simp only [dH,dgV,dcV,Cl.d,D1,Lv.w,dg,LY,seval]
         intro j hj
         by_cases h:j=p
         ·subst h
          simp only [if_true,hpos,hdp,hrs,LY,seval]
         ·simp only [h,if_false,LY,seval])
def dH3 (G:Gs) (m:Nat) (e:Nat→Lv):Hp:=[(0,dgB G),(1,dcV G.n G.c),(2,D1 (.sl 4 [] 0 m 4)),(4,.ar 4 m fun j=>(e j).w)]
theorem Akw {M:Seat} (ok:OkDg M) (G:Gs) (w:G.wf) (wb:G.bd) (m:Nat) (e:Nat→Lv) (L:Led G m e) (a:Int) (t:BitVec 64) (z:Int) (hz:G.rE a t=some z) :
 Ag M 146 [.ptr 0 [],.int .i64 a,W t] (dH G m e) 4 (Q3 (.int .i64 z) (dH G m e) 4):=by
 have hD:=w.hD
 have hn:=w.hn
 have hLm:=L.lt
 have hO:=Akp ok G a
 generalize hY:dH3 (G.rsv a.toNat) (m + 1) (Akg e m ⟨4,G.rsB a.toNat,a,G.v a.toNat⟩)=Y
 unfold Gs.rE at hz
 refine Ab ok.k146 rfl fun x hx=>?_
 by_cases h1:a < 0 ∨ (G.n:Int)≤a
 ·rw [if_pos h1] at hz
  cases hz
  try
   rw [show Akl G a=4 from if_pos h1] at hO
   refine es 2000 ?_;(simp only [Anu,An2,dH,dgV,dcV,Cl.d,D1,Lv.w,LZ,seval])
   have zz:=Ka @dgV.eq_1 @dcV.eq_1 @Cl.d.eq_1 @dg.eq_1;refine Bw [0,1,2] [0,1] (hO) ?_
   (simp only [dgV,dcV,Cl.d,seval,LZ,reduceCtorEq])
   have zz:=aq7 @dH.eq_1 @dgV.eq_1 @dcV.eq_1 @Cl.d.eq_1 @D1.eq_1 @Lv.w.eq_1 @dg.eq_1;exact Bf hx [0,1,2,3] ⟨rfl,rfl,rfl⟩
 rw [if_neg h1] at hz
 obtain ⟨p,rfl⟩:∃ p:Nat,a=p:=⟨a.toNat,by omega⟩
 have hp:p < G.n:=Aa
 rw [Int.toNat_natCast] at *
 cases hrs:(G.c p).rs with
 | true =>
   rw [hrs,if_pos rfl] at hz
   cases hz
   try
    rw [show Akl G p=43 by unfold Akl;rw [if_neg h1,Int.toNat_natCast,hrs,if_pos rfl]] at hO
    refine es 2000 ?_;(simp only [Anu,An2,dH,dgV,dcV,Cl.d,D1,Lv.w,LZ,seval])
    have zz:=Ka @dgV.eq_1 @dcV.eq_1 @Cl.d.eq_1 @dg.eq_1;refine Bw [0,1,2] [0,1] (hO) ?_
    (simp only [dgV,dcV,Cl.d,seval,LZ,reduceCtorEq])
    have zz:=aq7 @dH.eq_1 @dgV.eq_1 @dcV.eq_1 @Cl.d.eq_1 @D1.eq_1 @Lv.w.eq_1 @dg.eq_1;exact Bf hx [0,1,2,3] ⟨rfl,rfl,rfl⟩
 | false =>
 rw [hrs,if_neg Am] at hz
 rw [show Akl G p=0 by unfold Akl;rw [if_neg h1,Int.toNat_natCast,hrs,if_neg Am]] at hO
 obtain ⟨k,i0,hk,hi0,hpos⟩:=w.pls p hp
 have hdp:=Cr (show k≤24 by omega) hi0
 have hBp:=Akk ok G (G.c p) (Hk w.prs hp)
 obtain ⟨hbd,hgv⟩:=wb.bond p hp
 obtain ⟨B,hB8,hB⟩:=G.rsB_lt wb hp
 have hDs:=Ako ok.l e m Aa ⟨4,B,p,0#64⟩ (.inr rfl) (by
  unfold doE
  rw [if_neg (by dsimp only;omega),if_neg (show ¬ (4:Int)=3 by decide),if_neg (by dsimp only;rw [L.n];omega)]
  dsimp only
  rw [L.g p hp,hgv,hrs];rfl)
 rw [show doN e m ⟨4,B,p,0#64⟩=⟨4,B,p,G.v p⟩ by rw [doN,if_neg (show ¬ (4:Int)=3 by decide)];dsimp only;rw [L.v p hp],show doR e m ⟨4,B,p,0#64⟩=0 from if_neg (show ¬ (4:Int)=3 by decide)] at hDs
 simp only [Lv.w,D1] at hDs
 simp only [Cl.d,hpos,hdp,hrs,hbd] at hBp
 generalize hX:G.rsv p=X at *
 unfold Gs.rsv Gs.rsC at hX
 rw [hB] at hX hY
 rw [Int.toNat_natCast] at hX
 unfold Gs.rsB at hB
 unfold Gs.rsE at hz
 have hHead:True:=trivial
 have d1:((p:Int) < (G.n:Int))=True:=eq_true Aa
 have d2:(0≤(p:Int))=True:=eq_true Aa
 generalize hu0:CQ G.c (G.c p)=u at *
 refine es 2000 ?_;(simp only [Anu,An2,dH,dgV,dcV,Cl.d,D1,Lv.w,LZ,seval])
 have zz:=Ka @dgV.eq_1 @dcV.eq_1 @Cl.d.eq_1 @dg.eq_1;refine Bw [0,1,2] [0,1] (hO) ?_
 (simp only [dgV,dcV,Cl.d,hpos,hdp,hrs,hbd,d1,d2,seval,LZ,reduceCtorEq])
 repeat refine sd ?_
 refine An (σ:=Nat) (fun i=>i≤G.n∧∀ j,j < i→(G.c j).par=p→(G.c j).rs=true) (fun i=>fr 138 [(0,.ptr 0 []),(1,.int .i64 p),(2,W t),(6,.int .i64 0),(7,.int .i64 0),(8,.ptr 4 []),(9,.int .i64 (abI (Cc G.c p i))),(10,.int .i64 i)]) (fun _=>dH G m e ++ [(4,(G.c p).d)]) (fun _=>5) (fun i=>G.n - i) 0 ⟨by omega,fun j h=>by omega⟩ ?_ ?_
 ·refine Ao.fr [0,1,2,3,260] [] hx AQ Am ?_ ?_
  ·simp only [Cc,abI,Int.natCast_zero,LY,seval]
  ·simp only [dH,dgV,dcV,Cl.d,D1,Lv.w,hpos,hdp,hrs,hbd,dg,B3,LY,seval]
 ·intro i ⟨hi,hk⟩
  refine es 2000 ?_
  by_cases hin:i=G.n
  ·subst hin
   have w0:((G.n:Int) < (G.n:Int))=False:=eq_false Aa
   have hno:¬ G.kidO p:=fun ⟨j,h1,h2,h3⟩=>by rw [hk j h1 h2] at h3;cases h3
   rw [if_neg hno] at hz
   generalize hb:Cc G.c p G.n=R at *
   have hlR:∀ j,R=some j→j < G.n:=fun j hj=>(Gi _ _ _ _ (hb.trans hj)).1
   (simp only [w0,dH,dgV,dcV,Cl.d,D1,Lv.w,hpos,hdp,hrs,hbd,B3,LZ,seval])
   have zz:=XK @dgV.eq_1 @dcV.eq_1 @Cl.d.eq_1 hpos hdp hrs hbd @dg.eq_1;refine L9 [0,1,2] [0,1] (hBp) ?_
   (simp only [dgV,dcV,Cl.d,LZ,seval])
   by_cases h5:Gy (G.c p).us (G.c p).at' u t
   ·rw [if_pos h5] at hz
    cases hz
    try
     refine Bq (Akn ok.p _ _ _ _ h5) ?_
     (simp only [AH,seval])
     have zz:=BT @dH.eq_1 @dgV.eq_1 @dcV.eq_1 @Cl.d.eq_1 @D1.eq_1 @Lv.w.eq_1 @dg.eq_1 hpos hdp hrs hbd;exact Bf hx [0,1,2,3] ⟨rfl,rfl,rfl⟩
   rw [if_neg h5] at hz
   refine Bq (Aki ok.p _ _ _ _ h5) ?_
   by_cases h6:G.l≤u + t - (G.c p).at'
   case neg =>
    rw [if_neg h6] at hz
    cases hz
    try
     have h6:(u + t - (G.c p).at' < G.l)=True:=eq_true (by rw [BitVec.le_def] at h6;rw [BitVec.lt_def];omega)
     (simp only [AH,h6,seval])
     have zz:=BT @dH.eq_1 @dgV.eq_1 @dcV.eq_1 @Cl.d.eq_1 @D1.eq_1 @Lv.w.eq_1 @dg.eq_1 hpos hdp hrs hbd;exact Bf hx [0,1,2,3] ⟨rfl,rfl,rfl⟩
   rw [if_pos h6] at hz
   cases hz
   try
    have h6:(u + t - (G.c p).at' < G.l)=False:=eq_false (by rw [BitVec.le_def] at h6;rw [BitVec.lt_def];omega)
    have hm:∀ st,(G.c p).st=st→(st=true ∨ R=none→(G.c p).by'=B)∧∀ j,st=false→R=some j→(G.c j).pl=B:=by
     rintro st rfl
     cases hst:(G.c p).st <;> cases R <;> rw [hst] at hB <;> simp at hB <;> refine ⟨fun h=>?_,fun j h1 h2=>?_⟩
     all_goals first | exact hB | (cases h2;exact hB) | (cases h2;done) | (rcases h with h | h <;> cases h) | cases h1
    have hm1:=fun st h=>(hm st h).1
    have hm2:=fun st h=>(hm st h).2
    clear hm hB
    cases hst:(G.c p).st <;> cases R
    case' false.none=>have hq:=hm1 _ hst (.inr rfl);have hj:=hst
    case' true.none=>have hq:=hm1 _ hst (.inr rfl);have hj:=hst
    case' true.some j=>have hq:=hm1 _ hst (.inl rfl);have hj:=eq_true (show (0:Int)≤(j:Int) by omega)
    case' false.some j=>have hq:=hm2 _ hst j rfl rfl;have hj:=And.intro (eq_true (show (0:Int)≤(j:Int) by omega)) (And.intro (eq_true (show (j:Int) < (G.n:Int) by have:=hlR j rfl;omega)) (eq_true (hlR j rfl)))
    all_goals
     simp only [hst,Bool.or_true,Bool.true_or,Bool.false_or,Option.isSome] at hX
     clear hm1 hm2
     (simp only [AH,h6,abI,seval,hst,hj,hq,d1,d2,reduceCtorEq])
     repeat refine sd ?_
     have zz:=Bb @D1.eq_1 @Lv.w.eq_1;refine L9 [2,3] [2,3] (hDs) ?_
     (simp only [AH,D1,Lv.w,seval])
     subst hX
     subst hY
     first
     | refine Ar.mk hx [0,1,2,3,1589] [] (.int .i64 0) _ 5 Am (by (simp only [CU,seval])) (by simp only [LV,LY,seval]) ?_ ⟨rfl,rfl,rfl⟩;simp only [dH3,Akg,dgV,dcV,Cl.d,D1,Lv.w,dg,LY,seval];done
     | (refine Ar.mk hx [0, 1, 2, 3, 1589] [] (.int .i64 0) _ 5 Am (by (simp only [CU, seval])) (by simp only [LV, LY, seval]) ?_ ⟨rfl, rfl, rfl⟩
        simp only [dH3,Akg,dgV,dcV,Cl.d,D1,Lv.w,dg,LY,seval]
        intro j hj
        by_cases h:j=p
        ·subst h
         simp only [if_true,hpos,hdp,hrs,hbd,hst,LY,seval]
        ·simp only [h,if_false,LY,seval])
     | (refine Ar.mk hx [0, 1, 2, 3, 1749] [] (.int .i64 0) _ 5 Am (by (simp only [CU, seval])) (by simp only [LV, LY, seval]) ?_ ⟨rfl, rfl, rfl⟩
        simp only [dH3,Akg,dgV,dcV,Cl.d,D1,Lv.w,dg,LY,seval]
        intro j hj
        by_cases h:j=p
        ·subst h
         simp only [if_true,hpos,hdp,hrs,hbd,hst,LY,seval]
        ·simp only [h,if_false,LY,seval])
  ·have w0:((i:Int) < (G.n:Int))=True:=eq_true Aa
   have w1:(0≤(i:Int))=True:=eq_true Aa
   have z0:IntKind.i64.wrap ((i:Int) + 1)=((i + 1:Nat):Int):=AZ
   have hk':(G.c i).rs=true→∀ j,j < i + 1→(G.c j).par=p→(G.c j).rs=true:=fun h0 j hj hp=>by
    rcases Nat.lt_or_ge j i with h | h
    ·exact hk j h hp
    ·obtain rfl:j=i:=Aa
     exact h0
   by_cases g1:(G.c i).par=p
   case neg =>
    have hb1:Cc G.c p (i + 1)=Cc G.c p i:=by rw [Cc,if_neg (fun h=>g1 h.1)]
    have g1':=eq_false g1
    have hk2:∀ j,j < i + 1→(G.c j).par=p→(G.c j).rs=true:=fun j hj hp=>by
     rcases Nat.lt_or_ge j i with h | h
     ·exact hk j h hp
     ·obtain rfl:j=i:=Aa
      exact absurd hp g1
    (simp only [w0,w1,z0,g1',dH,dgV,dcV,Cl.d,D1,Lv.w,hpos,hdp,hrs,hbd,B3,LZ,seval])
    repeat refine sd ?_
    refine ⟨i + 1,by omega,hk2,by omega,?_⟩
    rw [hb1]
    refine Ao.fr [0,1,2,3,4] [] hx AQ Am ?_ ?_
    ·simp only [LY,seval]
    ·simp only [dH,dgV,dcV,Cl.d,D1,Lv.w,hpos,hdp,hrs,hbd,dg,B3,LY,seval]
   have g1':=eq_true g1
   cases hri:(G.c i).rs with
   | false =>
     have hin2:i < G.n:=Aa
     rw [if_pos ⟨i,hin2,g1,hri⟩] at hz
     cases hz
     try
      (simp only [w0,w1,z0,g1',hri,dH,dgV,dcV,Cl.d,D1,Lv.w,hpos,hdp,hrs,hbd,B3,LZ,seval])
      repeat refine sd ?_
      have zz:=BT @dH.eq_1 @dgV.eq_1 @dcV.eq_1 @Cl.d.eq_1 @D1.eq_1 @Lv.w.eq_1 @dg.eq_1 hpos hdp hrs hbd;exact Bf hx [0,1,2,3] ⟨rfl,rfl,rfl⟩
   | true =>
     have hk2:=hk' hri
     cases hco:(G.c i).co with
     | true =>
       have hb1:Cc G.c p (i + 1)=Cc G.c p i:=by rw [Cc,if_neg (fun h=>by have:=h.2.1;rw [hco] at this;cases this)]
       (simp only [w0,w1,z0,g1',hri,hco,dH,dgV,dcV,Cl.d,D1,Lv.w,hpos,hdp,hrs,hbd,B3,LZ,seval])
       repeat refine sd ?_
       refine ⟨i + 1,by omega,hk2,by omega,?_⟩
       rw [hb1]
       refine Ao.fr [0,1,2,3,4] [] hx AQ Am ?_ ?_
       ·simp only [LY,seval]
       ·simp only [dH,dgV,dcV,Cl.d,D1,Lv.w,hpos,hdp,hrs,hbd,dg,B3,LY,seval]
     | false =>
       have hb0:Cc G.c p (i + 1)=if ltO G.c i (Cc G.c p i)=true then some i else Cc G.c p i:=by
        rw [Cc]
        by_cases h:ltO G.c i (Cc G.c p i)=true
        ·rw [if_pos ⟨g1,hco,h⟩,if_pos h]
        ·rw [if_neg (fun h2=>h h2.2.2),if_neg h]
       have hbl:=fun b=>Gi G.c p i b
       generalize hR:Cc G.c p i=R at *
       cases R with
       | none =>
         rw [ltO,if_pos rfl] at hb0
         (simp only [w0,w1,z0,g1',hri,hco,abI,seval,dH,dgV,dcV,Cl.d,D1,Lv.w,hpos,hdp,hrs,hbd,B3,LZ,reduceCtorEq])
         repeat refine sd ?_
         refine ⟨i + 1,by omega,hk2,by omega,?_⟩
         rw [hb0]
         refine Ao.fr [0,1,2,3,4] [] hx AQ Am ?_ ?_
         ·simp only [abI,LY,seval]
         ·simp only [dH,dgV,dcV,Cl.d,D1,Lv.w,hpos,hdp,hrs,hbd,dg,B3,LY,seval]
       | some b =>
         have hbi:=(hbl b rfl).1
         have b0:((b:Int) < 0)=False:=eq_false Aa
         have b1:((b:Int) < (G.n:Int))=True:=eq_true Aa
         have b2:(0≤(b:Int))=True:=eq_true Aa
         by_cases hlt:(G.c i).pos < (G.c b).pos
         ·have hlt':=eq_true hlt
          rw [ltO,decide_eq_true hlt,if_pos rfl] at hb0
          (simp only [w0,w1,z0,g1',hri,hco,abI,b0,b1,b2,hlt',dH,dgV,dcV,Cl.d,D1,Lv.w,hpos,hdp,hrs,hbd,B3,LZ,seval])
          repeat refine sd ?_
          refine ⟨i + 1,by omega,hk2,by omega,?_⟩
          rw [hb0]
          refine Ao.fr [0,1,2,3,4] [] hx AQ Am ?_ ?_
          ·simp only [abI,LY,seval]
          ·simp only [dH,dgV,dcV,Cl.d,D1,Lv.w,hpos,hdp,hrs,hbd,dg,B3,LY,seval]
         ·have hlt':=eq_false hlt
          rw [ltO,decide_eq_false hlt,if_neg Am] at hb0
          (simp only [w0,w1,z0,g1',hri,hco,abI,b0,b1,b2,hlt',dH,dgV,dcV,Cl.d,D1,Lv.w,hpos,hdp,hrs,hbd,B3,LZ,seval])
          repeat refine sd ?_
          refine ⟨i + 1,by omega,hk2,by omega,?_⟩
          rw [hb0]
          refine Ao.fr [0,1,2,3,4] [] hx AQ Am ?_ ?_
          ·simp only [abI,LY,seval]
          ·simp only [dH,dgV,dcV,Cl.d,D1,Lv.w,hpos,hdp,hrs,hbd,dg,B3,LY,seval]
theorem Akv {M:Seat} (ok:OkDg M) (G:Gs) (w:G.wf) (wb:G.bd) (m:Nat) (e:Nat→Lv) (L:Led G m e) (a:Int) (t:BitVec 64) (hz:G.rE a t=none) :
 Ag M 146 [.ptr 0 [],.int .i64 a,W t] (dH G m e) 4 (Q3 (.int .i64 0) (dH3 (G.rsv a.toNat) (m + 1) (Akg e m ⟨4,G.rsB a.toNat,a,G.v a.toNat⟩)) 5):=by
 have hD:=w.hD
 have hn:=w.hn
 have hLm:=L.lt
 have hO:=Akp ok G a
 generalize hY:dH3 (G.rsv a.toNat) (m + 1) (Akg e m ⟨4,G.rsB a.toNat,a,G.v a.toNat⟩)=Y
 unfold Gs.rE at hz
 refine Ab ok.k146 rfl fun x hx=>?_
 by_cases h1:a < 0 ∨ (G.n:Int)≤a
 ·rw [if_pos h1] at hz
  cases hz
  try
   rw [show Akl G a=4 from if_pos h1] at hO
   refine es 2000 ?_;(simp only [Anu,An2,dH,dgV,dcV,Cl.d,D1,Lv.w,LZ,seval])
   have zz:=Ka @dgV.eq_1 @dcV.eq_1 @Cl.d.eq_1 @dg.eq_1;refine Bw [0,1,2] [0,1] (hO) ?_
   (simp only [dgV,dcV,Cl.d,seval,LZ,reduceCtorEq])
   have zz:=aq7 @dH.eq_1 @dgV.eq_1 @dcV.eq_1 @Cl.d.eq_1 @D1.eq_1 @Lv.w.eq_1 @dg.eq_1;exact Bf hx [0,1,2,3] ⟨rfl,rfl,rfl⟩
 rw [if_neg h1] at hz
 obtain ⟨p,rfl⟩:∃ p:Nat,a=p:=⟨a.toNat,by omega⟩
 have hp:p < G.n:=Aa
 rw [Int.toNat_natCast] at *
 cases hrs:(G.c p).rs with
 | true =>
   rw [hrs,if_pos rfl] at hz
   cases hz
   try
    rw [show Akl G p=43 by unfold Akl;rw [if_neg h1,Int.toNat_natCast,hrs,if_pos rfl]] at hO
    refine es 2000 ?_;(simp only [Anu,An2,dH,dgV,dcV,Cl.d,D1,Lv.w,LZ,seval])
    have zz:=Ka @dgV.eq_1 @dcV.eq_1 @Cl.d.eq_1 @dg.eq_1;refine Bw [0,1,2] [0,1] (hO) ?_
    (simp only [dgV,dcV,Cl.d,seval,LZ,reduceCtorEq])
    have zz:=aq7 @dH.eq_1 @dgV.eq_1 @dcV.eq_1 @Cl.d.eq_1 @D1.eq_1 @Lv.w.eq_1 @dg.eq_1;exact Bf hx [0,1,2,3] ⟨rfl,rfl,rfl⟩
 | false =>
 rw [hrs,if_neg Am] at hz
 rw [show Akl G p=0 by unfold Akl;rw [if_neg h1,Int.toNat_natCast,hrs,if_neg Am]] at hO
 obtain ⟨k,i0,hk,hi0,hpos⟩:=w.pls p hp
 have hdp:=Cr (show k≤24 by omega) hi0
 have hBp:=Akk ok G (G.c p) (Hk w.prs hp)
 obtain ⟨hbd,hgv⟩:=wb.bond p hp
 obtain ⟨B,hB8,hB⟩:=G.rsB_lt wb hp
 have hDs:=Ako ok.l e m Aa ⟨4,B,p,0#64⟩ (.inr rfl) (by
  unfold doE
  rw [if_neg (by dsimp only;omega),if_neg (show ¬ (4:Int)=3 by decide),if_neg (by dsimp only;rw [L.n];omega)]
  dsimp only
  rw [L.g p hp,hgv,hrs];rfl)
 rw [show doN e m ⟨4,B,p,0#64⟩=⟨4,B,p,G.v p⟩ by rw [doN,if_neg (show ¬ (4:Int)=3 by decide)];dsimp only;rw [L.v p hp],show doR e m ⟨4,B,p,0#64⟩=0 from if_neg (show ¬ (4:Int)=3 by decide)] at hDs
 simp only [Lv.w,D1] at hDs
 simp only [Cl.d,hpos,hdp,hrs,hbd] at hBp
 generalize hX:G.rsv p=X at *
 unfold Gs.rsv Gs.rsC at hX
 rw [hB] at hX hY
 rw [Int.toNat_natCast] at hX
 unfold Gs.rsB at hB
 unfold Gs.rsE at hz
 have hHead:True:=trivial
 have d1:((p:Int) < (G.n:Int))=True:=eq_true Aa
 have d2:(0≤(p:Int))=True:=eq_true Aa
 generalize hu0:CQ G.c (G.c p)=u at *
 refine es 2000 ?_;(simp only [Anu,An2,dH,dgV,dcV,Cl.d,D1,Lv.w,LZ,seval])
 have zz:=Ka @dgV.eq_1 @dcV.eq_1 @Cl.d.eq_1 @dg.eq_1;refine Bw [0,1,2] [0,1] (hO) ?_
 (simp only [dgV,dcV,Cl.d,hpos,hdp,hrs,hbd,d1,d2,seval,LZ,reduceCtorEq])
 repeat refine sd ?_
 refine An (σ:=Nat) (fun i=>i≤G.n∧∀ j,j < i→(G.c j).par=p→(G.c j).rs=true) (fun i=>fr 138 [(0,.ptr 0 []),(1,.int .i64 p),(2,W t),(6,.int .i64 0),(7,.int .i64 0),(8,.ptr 4 []),(9,.int .i64 (abI (Cc G.c p i))),(10,.int .i64 i)]) (fun _=>dH G m e ++ [(4,(G.c p).d)]) (fun _=>5) (fun i=>G.n - i) 0 ⟨by omega,fun j h=>by omega⟩ ?_ ?_
 ·refine Ao.fr [0,1,2,3,260] [] hx AQ Am ?_ ?_
  ·simp only [Cc,abI,Int.natCast_zero,LY,seval]
  ·simp only [dH,dgV,dcV,Cl.d,D1,Lv.w,hpos,hdp,hrs,hbd,dg,B3,LY,seval]
 ·intro i ⟨hi,hk⟩
  refine es 2000 ?_
  by_cases hin:i=G.n
  ·subst hin
   have w0:((G.n:Int) < (G.n:Int))=False:=eq_false Aa
   have hno:¬ G.kidO p:=fun ⟨j,h1,h2,h3⟩=>by rw [hk j h1 h2] at h3;cases h3
   rw [if_neg hno] at hz
   generalize hb:Cc G.c p G.n=R at *
   have hlR:∀ j,R=some j→j < G.n:=fun j hj=>(Gi _ _ _ _ (hb.trans hj)).1
   (simp only [w0,dH,dgV,dcV,Cl.d,D1,Lv.w,hpos,hdp,hrs,hbd,B3,LZ,seval])
   have zz:=XK @dgV.eq_1 @dcV.eq_1 @Cl.d.eq_1 hpos hdp hrs hbd @dg.eq_1;refine L9 [0,1,2] [0,1] (hBp) ?_
   (simp only [dgV,dcV,Cl.d,LZ,seval])
   by_cases h5:Gy (G.c p).us (G.c p).at' u t
   ·rw [if_pos h5] at hz
    cases hz
    try
     refine Bq (Akn ok.p _ _ _ _ h5) ?_
     (simp only [AH,seval])
     have zz:=BT @dH.eq_1 @dgV.eq_1 @dcV.eq_1 @Cl.d.eq_1 @D1.eq_1 @Lv.w.eq_1 @dg.eq_1 hpos hdp hrs hbd;exact Bf hx [0,1,2,3] ⟨rfl,rfl,rfl⟩
   rw [if_neg h5] at hz
   refine Bq (Aki ok.p _ _ _ _ h5) ?_
   by_cases h6:G.l≤u + t - (G.c p).at'
   case neg =>
    rw [if_neg h6] at hz
    cases hz
    try
     have h6:(u + t - (G.c p).at' < G.l)=True:=eq_true (by rw [BitVec.le_def] at h6;rw [BitVec.lt_def];omega)
     (simp only [AH,h6,seval])
     have zz:=BT @dH.eq_1 @dgV.eq_1 @dcV.eq_1 @Cl.d.eq_1 @D1.eq_1 @Lv.w.eq_1 @dg.eq_1 hpos hdp hrs hbd;exact Bf hx [0,1,2,3] ⟨rfl,rfl,rfl⟩
   rw [if_pos h6] at hz
   cases hz
   try
    have h6:(u + t - (G.c p).at' < G.l)=False:=eq_false (by rw [BitVec.le_def] at h6;rw [BitVec.lt_def];omega)
    have hm:∀ st,(G.c p).st=st→(st=true ∨ R=none→(G.c p).by'=B)∧∀ j,st=false→R=some j→(G.c j).pl=B:=by
     rintro st rfl
     cases hst:(G.c p).st <;> cases R <;> rw [hst] at hB <;> simp at hB <;> refine ⟨fun h=>?_,fun j h1 h2=>?_⟩
     all_goals first | exact hB | (cases h2;exact hB) | (cases h2;done) | (rcases h with h | h <;> cases h) | cases h1
    have hm1:=fun st h=>(hm st h).1
    have hm2:=fun st h=>(hm st h).2
    clear hm hB
    cases hst:(G.c p).st <;> cases R
    case' false.none=>have hq:=hm1 _ hst (.inr rfl);have hj:=hst
    case' true.none=>have hq:=hm1 _ hst (.inr rfl);have hj:=hst
    case' true.some j=>have hq:=hm1 _ hst (.inl rfl);have hj:=eq_true (show (0:Int)≤(j:Int) by omega)
    case' false.some j=>have hq:=hm2 _ hst j rfl rfl;have hj:=And.intro (eq_true (show (0:Int)≤(j:Int) by omega)) (And.intro (eq_true (show (j:Int) < (G.n:Int) by have:=hlR j rfl;omega)) (eq_true (hlR j rfl)))
    all_goals
     simp only [hst,Bool.or_true,Bool.true_or,Bool.false_or,Option.isSome] at hX
     clear hm1 hm2
     (simp only [AH,h6,abI,seval,hst,hj,hq,d1,d2,reduceCtorEq])
     repeat refine sd ?_
     have zz:=Bb @D1.eq_1 @Lv.w.eq_1;refine L9 [2,3] [2,3] (hDs) ?_
     (simp only [AH,D1,Lv.w,seval])
     subst hX
     subst hY
     first
     | refine Ar.mk hx [0,1,2,3,1589] [] (.int .i64 0) _ 5 Am (by (simp only [CU,seval])) (by simp only [LV,LY,seval]) ?_ ⟨rfl,rfl,rfl⟩;simp only [dH3,Akg,dgV,dcV,Cl.d,D1,Lv.w,dg,LY,seval];done
     | (refine Ar.mk hx [0, 1, 2, 3, 1589] [] (.int .i64 0) _ 5 Am (by (simp only [CU, seval])) (by simp only [LV, LY, seval]) ?_ ⟨rfl, rfl, rfl⟩
        simp only [dH3,Akg,dgV,dcV,Cl.d,D1,Lv.w,dg,LY,seval]
        intro j hj
        by_cases h:j=p
        ·subst h
         simp only [if_true,hpos,hdp,hrs,hbd,hst,LY,seval]
        ·simp only [h,if_false,LY,seval])
     | (refine Ar.mk hx [0, 1, 2, 3, 1749] [] (.int .i64 0) _ 5 Am (by (simp only [CU, seval])) (by simp only [LV, LY, seval]) ?_ ⟨rfl, rfl, rfl⟩
        simp only [dH3,Akg,dgV,dcV,Cl.d,D1,Lv.w,dg,LY,seval]
        intro j hj
        by_cases h:j=p
        ·subst h
         simp only [if_true,hpos,hdp,hrs,hbd,hst,LY,seval]
        ·simp only [h,if_false,LY,seval])
  ·have w0:((i:Int) < (G.n:Int))=True:=eq_true Aa
   have w1:(0≤(i:Int))=True:=eq_true Aa
   have z0:IntKind.i64.wrap ((i:Int) + 1)=((i + 1:Nat):Int):=AZ
   have hk':(G.c i).rs=true→∀ j,j < i + 1→(G.c j).par=p→(G.c j).rs=true:=fun h0 j hj hp=>by
    rcases Nat.lt_or_ge j i with h | h
    ·exact hk j h hp
    ·obtain rfl:j=i:=Aa
     exact h0
   by_cases g1:(G.c i).par=p
   case neg =>
    have hb1:Cc G.c p (i + 1)=Cc G.c p i:=by rw [Cc,if_neg (fun h=>g1 h.1)]
    have g1':=eq_false g1
    have hk2:∀ j,j < i + 1→(G.c j).par=p→(G.c j).rs=true:=fun j hj hp=>by
     rcases Nat.lt_or_ge j i with h | h
     ·exact hk j h hp
     ·obtain rfl:j=i:=Aa
      exact absurd hp g1
    (simp only [w0,w1,z0,g1',dH,dgV,dcV,Cl.d,D1,Lv.w,hpos,hdp,hrs,hbd,B3,LZ,seval])
    repeat refine sd ?_
    refine ⟨i + 1,by omega,hk2,by omega,?_⟩
    rw [hb1]
    refine Ao.fr [0,1,2,3,4] [] hx AQ Am ?_ ?_
    ·simp only [LY,seval]
    ·simp only [dH,dgV,dcV,Cl.d,D1,Lv.w,hpos,hdp,hrs,hbd,dg,B3,LY,seval]
   have g1':=eq_true g1
   cases hri:(G.c i).rs with
   | false =>
     have hin2:i < G.n:=Aa
     rw [if_pos ⟨i,hin2,g1,hri⟩] at hz
     cases hz
     try
      (simp only [w0,w1,z0,g1',hri,dH,dgV,dcV,Cl.d,D1,Lv.w,hpos,hdp,hrs,hbd,B3,LZ,seval])
      repeat refine sd ?_
      have zz:=BT @dH.eq_1 @dgV.eq_1 @dcV.eq_1 @Cl.d.eq_1 @D1.eq_1 @Lv.w.eq_1 @dg.eq_1 hpos hdp hrs hbd;exact Bf hx [0,1,2,3] ⟨rfl,rfl,rfl⟩
   | true =>
     have hk2:=hk' hri
     cases hco:(G.c i).co with
     | true =>
       have hb1:Cc G.c p (i + 1)=Cc G.c p i:=by rw [Cc,if_neg (fun h=>by have:=h.2.1;rw [hco] at this;cases this)]
       (simp only [w0,w1,z0,g1',hri,hco,dH,dgV,dcV,Cl.d,D1,Lv.w,hpos,hdp,hrs,hbd,B3,LZ,seval])
       repeat refine sd ?_
       refine ⟨i + 1,by omega,hk2,by omega,?_⟩
       rw [hb1]
       refine Ao.fr [0,1,2,3,4] [] hx AQ Am ?_ ?_
       ·simp only [LY,seval]
       ·simp only [dH,dgV,dcV,Cl.d,D1,Lv.w,hpos,hdp,hrs,hbd,dg,B3,LY,seval]
     | false =>
       have hb0:Cc G.c p (i + 1)=if ltO G.c i (Cc G.c p i)=true then some i else Cc G.c p i:=by
        rw [Cc]
        by_cases h:ltO G.c i (Cc G.c p i)=true
        ·rw [if_pos ⟨g1,hco,h⟩,if_pos h]
        ·rw [if_neg (fun h2=>h h2.2.2),if_neg h]
       have hbl:=fun b=>Gi G.c p i b
       generalize hR:Cc G.c p i=R at *
       cases R with
       | none =>
         rw [ltO,if_pos rfl] at hb0
         (simp only [w0,w1,z0,g1',hri,hco,abI,seval,dH,dgV,dcV,Cl.d,D1,Lv.w,hpos,hdp,hrs,hbd,B3,LZ,reduceCtorEq])
         repeat refine sd ?_
         refine ⟨i + 1,by omega,hk2,by omega,?_⟩
         rw [hb0]
         refine Ao.fr [0,1,2,3,4] [] hx AQ Am ?_ ?_
         ·simp only [abI,LY,seval]
         ·simp only [dH,dgV,dcV,Cl.d,D1,Lv.w,hpos,hdp,hrs,hbd,dg,B3,LY,seval]
       | some b =>
         have hbi:=(hbl b rfl).1
         have b0:((b:Int) < 0)=False:=eq_false Aa
         have b1:((b:Int) < (G.n:Int))=True:=eq_true Aa
         have b2:(0≤(b:Int))=True:=eq_true Aa
         by_cases hlt:(G.c i).pos < (G.c b).pos
         ·have hlt':=eq_true hlt
          rw [ltO,decide_eq_true hlt,if_pos rfl] at hb0
          (simp only [w0,w1,z0,g1',hri,hco,abI,b0,b1,b2,hlt',dH,dgV,dcV,Cl.d,D1,Lv.w,hpos,hdp,hrs,hbd,B3,LZ,seval])
          repeat refine sd ?_
          refine ⟨i + 1,by omega,hk2,by omega,?_⟩
          rw [hb0]
          refine Ao.fr [0,1,2,3,4] [] hx AQ Am ?_ ?_
          ·simp only [abI,LY,seval]
          ·simp only [dH,dgV,dcV,Cl.d,D1,Lv.w,hpos,hdp,hrs,hbd,dg,B3,LY,seval]
         ·have hlt':=eq_false hlt
          rw [ltO,decide_eq_false hlt,if_neg Am] at hb0
          (simp only [w0,w1,z0,g1',hri,hco,abI,b0,b1,b2,hlt',dH,dgV,dcV,Cl.d,D1,Lv.w,hpos,hdp,hrs,hbd,B3,LZ,seval])
          repeat refine sd ?_
          refine ⟨i + 1,by omega,hk2,by omega,?_⟩
          rw [hb0]
          refine Ao.fr [0,1,2,3,4] [] hx AQ Am ?_ ?_
          ·simp only [abI,LY,seval]
          ·simp only [dH,dgV,dcV,Cl.d,D1,Lv.w,hpos,hdp,hrs,hbd,dg,B3,LY,seval]
end Mv
