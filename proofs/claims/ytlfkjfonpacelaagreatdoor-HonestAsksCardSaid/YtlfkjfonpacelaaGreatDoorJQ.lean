/- A part. -/
import Derived.Test.YtlfkjfonpacelaaGreatDoorJP
set_option linter.all false
set_option maxRecDepth 20000
set_option maxHeartbeats 16000000
namespace Mv
open Go
def Db (r:Bool) (p:BitVec 64):BitVec 64:=if r=true then (if N4 p + 1 < 2 ^ Gg p then pw (Gg p + 1) (2 * N4 p + 2) else 0#64) else pw (Gg p + 1) (2 * N4 p)
def Nj (rt:Nat→Bool) (c:Nat→Cl):Nat→Int→Bool
 | 0,_=>true
 | f + 1,i=>if i < 0 then true else if rt i.toNat=false then false else if (c i.toNat).par < 0 then true
  else if (c i.toNat).pos=Db (rt (c i.toNat).par.toNat) (c (c i.toNat).par.toNat).pos then Nj rt c f (c (c i.toNat).par.toNat).par else false
def X4 (n:Nat) (c:Nat→Cl) (rt:Nat→Bool) (own:Nat):Hp :=
 [(0,.st 5 (.fcons 0 (.ptr 3 []) (.fcons 1 (.ptr 4 []) (.fcons 2 (.sl 1 [] 0 n 42) (.fcons 3 (.sl 2 [] 0 n 1) (.fcons 4 (.int .i64 own) .fnil)))))),(1,Au n c),(2,.ar 1 n fun j=>.bool (rt j))]
theorem We {M:Seat} (ok:OkPo M) (k255:Ar M 255 Zg=true) (n D:Nat) (hn:n≤64) (hD:D≤20) (c:Nat→Cl) (hP:Pls D n c) (hR:Prs n c) (rt:Nat→Bool) (own:Nat) (i:Int) (hi:i = -1 ∨ ∃ p:Nat,i=p∧p < n) :
 Ae M 255 [.ptr 0 [],.int .i64 i] (X4 n c rt own) 5 (Q3 (.bool (Nj rt c 100 i)) (X4 n c rt own) 5):=by
 refine Ab k255 rfl fun x hx=>?_;generalize hRR:Nj rt c 100 i=R;refine eX ?_;simp only [Zg,Amh,LZ,seval];refine Am (σ:=Int) (fun i=>(i = -1 ∨ ∃ p:Nat,i=p∧p < n)∧∃ f,i.toNat < f∧Nj rt c f i=R) (fun i=>fr 81 [(0,.ptr 0 []),(1,.int .i64 i),(4,.bool false)]) (fun _=>X4 n c rt own) (fun _=>5) (fun i=>(i + 1).toNat) i ⟨hi,100,by omega,hRR⟩ ?_ ?_
 ·refine Ak.fr [0,1,2,3,4] [] hx AG Al ?_ ?_
  ·simp only [LY,seval]
  ·simp only [X4,Au,Cl.v,Ad,dg,LY,seval]
 ·rintro i ⟨hi,f,hf,hh⟩;refine eX ?_;rcases hi with rfl | ⟨p,rfl,hp⟩
  ·obtain ⟨g,rfl⟩:∃ g,f=g + 1:=⟨f - 1,by omega⟩
   have hR1:R=true:=by rw [← hh,Nj,if_pos Al]
   simp only [hR1,X4,LZ,seval];have zz:=D0 @f7 @b8 @b9 @b7;exact AI hx [0,1,2,3,4] ⟨rfl,rfl,rfl⟩
  obtain ⟨g,rfl⟩:∃ g,f=g + 1:=⟨f - 1,by omega⟩
  rw [Nj,if_neg Aa] at hh;simp only [Int.toNat_natCast] at hh hf;have d0:(0≤(p:Int))=True:=eq_true Aa;have d1:((p:Int) < (n:Int))=True:=eq_true Aa;cases hr:rt p with
  | false =>
    rw [if_pos hr] at hh;simp only [X4,d0,d1,Au,Cl.v,Ad,hr,LZ,seval];repeat refine sd ?_
    have zz:=Em @f7 @b8 @b9 @b7 hh;exact AI hx [0,1,2,3,4] ⟨rfl,rfl,rfl⟩
  | true =>
    rw [if_neg (by rw [hr];simp)] at hh;rcases hR p hp with hpar | ⟨q,hpar,hq⟩
    ·rw [if_pos (by rw [hpar];decide)] at hh;simp only [X4,d0,d1,Au,Cl.v,Ad,hr,hpar,LZ,seval];repeat refine sd ?_
     have zz:=Em @f7 @b8 @b9 @b7 hh;exact AI hx [0,1,2,3,4] ⟨rfl,rfl,rfl⟩
    ·have hpar':(c p).par.toNat=q:=by rw [hpar];rfl
     rw [if_neg (by rw [hpar];omega),hpar'] at hh;obtain ⟨k,u,hk,hu,hpos⟩:=hP q Aa;have hA:=Ek ok (show k < 24 by omega) hu;have d2:((q:Int) < 0)=False:=eq_false Aa;have d3:(0≤(q:Int))=True:=eq_true Aa;have d4:((q:Int) < (n:Int))=True:=eq_true Aa;have hw:Db (rt q) (c q).pos=if rt q=true then (if u + 1 < 2 ^ k then pw (k + 1) (2 * u + 2) else 0#64) else pw (k + 1) (2 * u):=by
      unfold Db;rw [hpos,BR Aa hu,CI Aa hu]
     have hqq:∀ g',Nj rt c g' (c q).par=Nj rt c g' (c q).par:=fun _=>rfl;have hb:(c q).par = -1 ∨ ∃ p:Nat,(c q).par=p∧p < n:=by
      rcases hR q Aa with h | ⟨y,h,hy⟩
      ·exact .inl h
      ·exact .inr ⟨y,h,by omega⟩
     have hb2:((c q).par + 1).toNat < p + 1:=by
      rcases hR q Aa with h | ⟨y,h,hy⟩ <;> omega
     have hb3:(c q).par.toNat < g:=by
      rcases hR q Aa with h | ⟨y,h,hy⟩ <;> omega
     cases hrq:rt q with
     | false =>
       rw [hrq] at hw hh;rw [if_neg B9] at hw;rw [hw] at hh;generalize pw (k + 1) (2 * u)=y at *
       simp only [X4,d0,d1,Au,Cl.v,Ad,hr,hpar,LZ,seval];repeat refine sd ?_
       simp only [d2,d3,d4,LZ,seval];repeat refine sd ?_
       simp only [hpos,LZ,seval];refine AO (hA) ?_;simp only [Bb,d3,d4,hrq,seval];by_cases hcp:(c p).pos=y
       ·rw [if_pos hcp] at hh;repeat refine sd ?_
        simp only [hcp,d0,d1,d2,d3,d4,hpar,LZ,seval];repeat refine sd ?_
        refine ⟨(c q).par,hb,⟨g,hb3,hh⟩,by omega,?_⟩;refine Ak.fr [0,1,2,3,4] [] hx AG Al ?_ ?_
        ·simp only [LY,seval]
        ·simp only [X4,Au,Cl.v,Ad,dg,LY,seval]
       ·rw [if_neg hcp] at hh;repeat refine sd ?_
        simp only [hcp,LZ,seval];have zz:=Em @f7 @b8 @b9 @b7 hh;exact AI hx [0,1,2,3,4] ⟨rfl,rfl,rfl⟩
     | true =>
       rw [hrq] at hw hh;rw [if_pos rfl] at hw;obtain ⟨y,ye,hye,hDf,hy⟩:∃ y ye,(ye=V.nili ∨ ye=er 45)∧(Ae M 132 [W (pw k u)] [] 0 (Q3 (Ai (W y) ye) [] 0))∧Db true (c q).pos=y:=by
        by_cases h2:u + 1 < 2 ^ k
        ·exact ⟨_,_,.inl rfl,Gt ok (show k < 24 by omega) h2,by rw [hw,if_pos h2]⟩
        ·have:=Hm ok (k:=k) (show k < 24 by omega);rw [show 2 ^ k - 1=u by omega] at this;exact ⟨_,_,.inr rfl,this,by rw [hw,if_neg h2]⟩
       rw [hy] at hh;simp only [X4,d0,d1,Au,Cl.v,Ad,hr,hpar,LZ,seval];repeat refine sd ?_
       simp only [d2,d3,d4,LZ,seval];repeat refine sd ?_
       simp only [hpos,LZ,seval];refine AO (hA) ?_;simp only [Bb,d3,d4,hrq,seval];repeat refine sd ?_
       simp only [hpos,LZ,seval];rcases hye with rfl | rfl;all_goals
        refine AO (hDf) ?_;simp only [Bb,er,d3,d4,seval];by_cases hcp:(c p).pos=y
        ·rw [if_pos hcp] at hh;repeat refine sd ?_
         simp only [hcp,d0,d1,d2,d3,d4,hpar,LZ,seval];repeat refine sd ?_
         refine ⟨(c q).par,hb,⟨g,hb3,hh⟩,by omega,?_⟩;refine Ak.fr [0,1,2,3,4] [] hx AG Al ?_ ?_
         ·simp only [LY,seval]
         ·simp only [X4,Au,Cl.v,Ad,dg,LY,seval]
        ·rw [if_neg hcp] at hh;repeat refine sd ?_
         simp only [hcp,LZ,seval];have zz:=Em @f7 @b8 @b9 @b7 hh;exact AI hx [0,1,2,3,4] ⟨rfl,rfl,rfl⟩
variable {M:Seat}
def anG (n:Nat) (c:Nat→Cl) (own:Nat) (ac:V):Hp:=[(6,.st 5 (.fcons 0 (.ptr 9 []) (.fcons 1 (.ptr 0 []) (.fcons 2 (.sl 7 [] 0 n 42) (.fcons 3 (.sl 10 [] 0 n 1) (.fcons 4 (.int .i64 own) .fnil)))))),(7,Au n c),(8,ac)]
def Dv (c:Nat→Cl) (j:Nat) (p:BitVec 64) (C:Dg):Nat→Bool
 | 0=>false
 | i + 1=>Dv c j p C i || decide ((c i).par=(j:Int)∧(c i).pos=p∧(c i).val=C)
theorem Pn {c:Nat→Cl} {j:Nat} {p:BitVec 64} {C:Dg} {i:Nat} (h:Dv c j p C i=true):∀ k,Dv c j p C (i + k)=true
 | 0=>h
 | k + 1 => by
   rw [show i + (k + 1)=(i + k) + 1 from rfl,Dv,Pn h k];rfl
theorem VT (ok:OkEo M) (a:OkAx M) {m0:Mc} {p0:List (Dg × Pr)} (t:Tr) (d:Nat) (hd:1≤d∧d≤4) (hF:Full m0 p0 d t) (n:Nat) (hn:n≤64) (c:Nat→Cl) (own:Nat) (j:Nat) (df:Bool) (cl:Cl) (k q:Nat) (hk:k < d) (hq:q < 2 ^ k) (hpos:cl.pos=pw k q) (hdf:df=true→q + 1 < 2 ^ k) (st:Bool) :
 Ae M 256 [.ptr 6 [],.ptr 8 [],cl.v] (t.H d (Ct m0 p0) ++ anG n c own (He j st df Dg.zero F5)) 11 (Q3 (Ai (.bool (!Dv c j (Db df cl.pos) (Ct m0 p0 (BitVec.ofNat 64 (Sg d (Db df cl.pos)) + 1#64)) n)) .nili) (t.H d (Ct m0 p0) ++ anG n c own (He j st df (Ct m0 p0 (BitVec.ofNat 64 (Sg d (Db df cl.pos)) + 1#64)) F5)) 11):=by
 have hAt:=Ek ok.v.g.t.s.v.g.p (show k < 24 by omega) hq;obtain ⟨u,hu,hw⟩:∃ u,u < 2 ^ (k + 1)∧Db df cl.pos=pw (k + 1) u∧(df=false→pw (k + 1) (2 * q)=pw (k + 1) u)∧(df=true→Ae M 132 [W (pw k q)] [] 0 (Q3 (Ai (W (pw (k + 1) u)) .nili) [] 0)):=by
  have e:2 ^ (k + 1)=2 * 2 ^ k:=KX;unfold Db;rw [hpos,BR Aa hq,CI Aa hq];cases df with
  | false=>exact ⟨2 * q,by omega,by rw [if_neg B9],fun _=>rfl,fun h=>by cases h⟩
  | true =>
    have h2:=hdf rfl;exact ⟨2 * q + 2,by omega,by rw [if_pos rfl,if_pos h2],(fun h=>by cases h),fun _=>Gt ok.v.g.t.s.v.g.p (show k < 24 by omega) h2⟩
 obtain ⟨hw,hw1,hw2⟩:=hw;rw [hw];have hT:=Cy ok.v.g.t.s.v.g.p ok.k359 (D:=d) (show d≤24 by omega) (show k + 1≤d by omega) hu;have hlt:=Ou (show k + 1≤d by omega) hu;have h16:2 ^ d≤2 ^ 4:=Nat.pow_le_pow_right Al hd.2;have e1:(BitVec.ofNat 64 (E3 d (k + 1) u)).toNat=E3 d (k + 1) u:=Oo;have hA:=PM a t d hF Aa (BitVec.ofNat 64 (E3 d (k + 1) u)) Aa;have ex:Sg d (pw (k + 1) u)=E3 d (k + 1) u:=by unfold Sg;rw [BR Aa hu,CI Aa hu]
 rw [ex];generalize Ct m0 p0 (BitVec.ofNat 64 (E3 d (k + 1) u) + 1#64)=C at *
 generalize BitVec.ofNat 64 (E3 d (k + 1) u)=ti at *
 generalize pw (k + 1) u=p at *
 simp only [Tr.H,Aw,Aq] at hA;refine Ab ok.k256 rfl fun x hx=>?_;cases df with
 | false =>
   have w1:=hw1 rfl;try rw [w1] at hAt
   refine eX ?_;simp only [Akw,Ai3,Cl.v,Ad,He,anG,Tr.H,Aw,Aq,B3,LZ,seval];try rw [hpos]
   refine Aj (hAt) ?_;simp only [Bb,seval];try (refine Aj (w1) ?_;(simp only [Bb,seval]))
   refine Aj (hT) ?_;simp only [Bb,seval];have zz:=Em @Ah @Ao @Ax @Cg @b7;refine By [0,1,2,3,4,5] [0,1,2,3,4,5] (hA) ?_;simp only [Cz,AE,B7,B5,Bt,seval];refine Am (σ:=Nat) (fun i=>i≤n∧Dv c j p C i=false) (fun i=>fr 92 [(1,.ptr 8 []),(8,W p),(63,.sl 7 [] 0 n 42),(64,.int .i64 n),(65,.int .i64 i)]) (fun _=>t.H d (Ct m0 p0) ++ [(6,.st 5 (.fcons 0 (.ptr 9 []) (.fcons 1 (.ptr 0 []) (.fcons 2 (.sl 7 [] 0 n 42) (.fcons 3 (.sl 10 [] 0 n 1) (.fcons 4 (.int .i64 own) .fnil)))))),(7,Au n c),(8,.st 151 (.fcons 0 (.int .i64 j) (.fcons 1 (.bool st) (.fcons 2 (.bool false) (.fcons 3 (dg C) (.fcons 35 F5 .fnil))))))]) (fun _=>11) (fun i=>n - i) 0 ⟨by omega,rfl⟩ ?_ ?_
   ·refine Ak.fr [0,1,2,3,4,5,6,7,8,9,10] [] hx AG Al ?_ ?_
    ·simp only [Int.natCast_zero,LY,seval]
    ·simp only [Tr.H,Aw,Aq,Au,Cl.v,Ad,F5,B3,Ah,Ao,Ax,BI,dg,seval]
   ·rintro i ⟨hi,hh⟩;refine eX ?_;by_cases hin:i=n
    ·subst hin;have d0:((i:Int) < (i:Int))=False:=eq_false Aa;simp only [d0,Tr.H,Aw,Aq,Au,Cl.v,Ad,B3,LZ,seval];have zz:=UW Qu hh @F5.eq_1 @Ah @Ao @Ax @b7;exact AI hx [0,1,2,3,4,5,6,7,8,9,10] ⟨rfl,rfl,rfl⟩
    ·have d0:((i:Int) < (n:Int))=True:=eq_true Aa;have d1:(0≤(i:Int))=True:=eq_true Aa;have wI:IntKind.i64.wrap ((i:Int) + 1)=((i + 1:Nat):Int):=AW;have hs:Dv c j p C (i + 1)=decide ((c i).par=(j:Int)∧(c i).pos=p∧(c i).val=C):=by rw [Dv,hh];rfl
     have hdd:((c i).par=(j:Int)∧(c i).pos=p∧(c i).val=C) ∨ ((c i).par=(j:Int))=False ∨ ((c i).par=(j:Int))=True∧((c i).pos=p)=False ∨ ((c i).par=(j:Int))=True∧((c i).pos=p)=True∧((c i).val=C)=False:=by
      by_cases g1:(c i).par=(j:Int)
      ·by_cases g2:(c i).pos=p
       ·by_cases g3:(c i).val=C
        ·exact .inl ⟨g1,g2,g3⟩
        ·exact .inr (.inr (.inr ⟨eq_true g1,eq_true g2,eq_false g3⟩))
       ·exact .inr (.inr (.inl ⟨eq_true g1,eq_false g2⟩))
      ·exact .inr (.inl (eq_false g1))
     rcases hdd with ⟨g1,g2,g3⟩ | hdd
     ·have hs1:Dv c j p C n=true:=by
       have:=Pn (c:=c) (j:=j) (p:=p) (C:=C) (i:=i + 1) (by rw [hs];exact decide_eq_true ⟨g1,g2,g3⟩) (n - (i + 1));rw [show i + 1 + (n - (i + 1))=n by omega] at this;exact this
      simp only [d0,d1,g1,g2,g3,Tr.H,Aw,Aq,Au,Cl.v,Ad,B3,LZ,seval];repeat refine sd ?_
      have zz:=UW Qu hs1 @F5.eq_1 @Ah @Ao @Ax @b7;exact AI hx [0,1,2,3,4,5,6,7,8,9,10] ⟨rfl,rfl,rfl⟩
     ·have hs1:Dv c j p C (i + 1)=false:=by
       rw [hs];apply decide_eq_false;rintro ⟨g1,g2,g3⟩;rcases hdd with h | ⟨-,h⟩ | ⟨-,-,h⟩
       ·exact h.mp g1
       ·exact h.mp g2
       ·exact h.mp g3
      rcases hdd with hdd | hdd | hdd;all_goals
       simp only [d0,d1,hdd,wI,Tr.H,Aw,Aq,Au,Cl.v,Ad,B3,LZ,seval];refine ⟨by omega,i + 1,by omega,hs1,by omega,?_⟩;refine Ak.fr [0,1,2,3,4,5,6,7,8,9,10] [] hx AG Al ?_ ?_
       ·simp only [LY,seval]
       ·simp only [F5,Ah,Ao,Ax,BI,dg,seval]
 | true =>
   have w1:=hw2 rfl;try rw [w1] at hAt
   refine eX ?_;simp only [Akw,Ai3,Cl.v,Ad,He,anG,Tr.H,Aw,Aq,B3,LZ,seval];try rw [hpos]
   refine Aj (hAt) ?_;simp only [Bb,seval];try (refine Aj (w1) ?_;(simp only [Bb,seval]))
   refine Aj (hT) ?_;simp only [Bb,seval];have zz:=Em @Ah @Ao @Ax @Cg @b7;refine By [0,1,2,3,4,5] [0,1,2,3,4,5] (hA) ?_;simp only [Cz,AE,B7,B5,Bt,seval];refine Am (σ:=Nat) (fun i=>i≤n∧Dv c j p C i=false) (fun i=>fr 92 [(1,.ptr 8 []),(8,W p),(63,.sl 7 [] 0 n 42),(64,.int .i64 n),(65,.int .i64 i)]) (fun _=>t.H d (Ct m0 p0) ++ [(6,.st 5 (.fcons 0 (.ptr 9 []) (.fcons 1 (.ptr 0 []) (.fcons 2 (.sl 7 [] 0 n 42) (.fcons 3 (.sl 10 [] 0 n 1) (.fcons 4 (.int .i64 own) .fnil)))))),(7,Au n c),(8,.st 151 (.fcons 0 (.int .i64 j) (.fcons 1 (.bool st) (.fcons 2 (.bool true) (.fcons 3 (dg C) (.fcons 35 F5 .fnil))))))]) (fun _=>11) (fun i=>n - i) 0 ⟨by omega,rfl⟩ ?_ ?_
   ·refine Ak.fr [0,1,2,3,4,5,6,7,8,9,10] [] hx AG Al ?_ ?_
    ·simp only [Int.natCast_zero,LY,seval]
    ·simp only [Tr.H,Aw,Aq,Au,Cl.v,Ad,F5,B3,Ah,Ao,Ax,BI,dg,seval]
   ·rintro i ⟨hi,hh⟩;refine eX ?_;by_cases hin:i=n
    ·subst hin;have d0:((i:Int) < (i:Int))=False:=eq_false Aa;simp only [d0,Tr.H,Aw,Aq,Au,Cl.v,Ad,B3,LZ,seval];have zz:=UW Qu hh @F5.eq_1 @Ah @Ao @Ax @b7;exact AI hx [0,1,2,3,4,5,6,7,8,9,10] ⟨rfl,rfl,rfl⟩
    ·have d0:((i:Int) < (n:Int))=True:=eq_true Aa;have d1:(0≤(i:Int))=True:=eq_true Aa;have wI:IntKind.i64.wrap ((i:Int) + 1)=((i + 1:Nat):Int):=AW;have hs:Dv c j p C (i + 1)=decide ((c i).par=(j:Int)∧(c i).pos=p∧(c i).val=C):=by rw [Dv,hh];rfl
     have hdd:((c i).par=(j:Int)∧(c i).pos=p∧(c i).val=C) ∨ ((c i).par=(j:Int))=False ∨ ((c i).par=(j:Int))=True∧((c i).pos=p)=False ∨ ((c i).par=(j:Int))=True∧((c i).pos=p)=True∧((c i).val=C)=False:=by
      by_cases g1:(c i).par=(j:Int)
      ·by_cases g2:(c i).pos=p
       ·by_cases g3:(c i).val=C
        ·exact .inl ⟨g1,g2,g3⟩
        ·exact .inr (.inr (.inr ⟨eq_true g1,eq_true g2,eq_false g3⟩))
       ·exact .inr (.inr (.inl ⟨eq_true g1,eq_false g2⟩))
      ·exact .inr (.inl (eq_false g1))
     rcases hdd with ⟨g1,g2,g3⟩ | hdd
     ·have hs1:Dv c j p C n=true:=by
       have:=Pn (c:=c) (j:=j) (p:=p) (C:=C) (i:=i + 1) (by rw [hs];exact decide_eq_true ⟨g1,g2,g3⟩) (n - (i + 1));rw [show i + 1 + (n - (i + 1))=n by omega] at this;exact this
      simp only [d0,d1,g1,g2,g3,Tr.H,Aw,Aq,Au,Cl.v,Ad,B3,LZ,seval];repeat refine sd ?_
      have zz:=UW Qu hs1 @F5.eq_1 @Ah @Ao @Ax @b7;exact AI hx [0,1,2,3,4,5,6,7,8,9,10] ⟨rfl,rfl,rfl⟩
     ·have hs1:Dv c j p C (i + 1)=false:=by
       rw [hs];apply decide_eq_false;rintro ⟨g1,g2,g3⟩;rcases hdd with h | ⟨-,h⟩ | ⟨-,-,h⟩
       ·exact h.mp g1
       ·exact h.mp g2
       ·exact h.mp g3
      rcases hdd with hdd | hdd | hdd;all_goals
       simp only [d0,d1,hdd,wI,Tr.H,Aw,Aq,Au,Cl.v,Ad,B3,LZ,seval];refine ⟨by omega,i + 1,by omega,hs1,by omega,?_⟩;refine Ak.fr [0,1,2,3,4,5,6,7,8,9,10] [] hx AG Al ?_ ?_
       ·simp only [LY,seval]
       ·simp only [F5,Ah,Ao,Ax,BI,dg,seval]
theorem S5 (k257:Ar M 257 f257=true) (k359:Ar M 359 M2=true) (ok:OkPo M) (a:OkPt M) {m0:Mc} {p0:List (Dg × Pr)} (t:Tr) (d:Nat) (hd:1≤d∧d≤4) (hF:Full m0 p0 d t) (n:Nat) (c:Nat→Cl) (own:Nat) (j:Nat) (df:Bool) (cl:Cl) (q:Nat) (hq:q < 2 ^ d) (hpos:cl.pos=pw d q) (hdf:df=true→q + 1 < 2 ^ d) (hst:cl.st=false) (st:Bool)
 (R:Dg) (h:Hd) (L:List Pf) (P:Pr) (hpv:pvX m0 p0 (if df=true then q + 1 else q)=Ai (DG R h L P) .nili) :
 Ae M 257 [.ptr 6 [],.ptr 8 [],cl.v] (t.H d (Ct m0 p0) ++ anG n c own (He j st df Dg.zero F5)) 11 (Q3 (Ai (.bool true) .nili) (t.H d (Ct m0 p0) ++ anG n c own (He j st df Dg.zero (DG R h L P))) 11):=by
 have hT:=Cy ok k359 (D:=d) (show d≤24 by omega) (show d≤d by omega) hq;have h16:2 ^ d≤2 ^ 4:=Nat.pow_le_pow_right Al hd.2;rw [show E3 d d q=q by unfold E3;simp] at hT;refine Ab k257 rfl fun x hx=>?_;have e1:BitVec.ofNat 64 q + 1#64=BitVec.ofNat 64 (q + 1):=by
  apply BitVec.eq_of_toNat_eq;have e3:(BitVec.ofNat 64 q).toNat=q:=Oo;have e4:(BitVec.ofNat 64 (q + 1)).toNat=q + 1:=Oo;rw [BitVec.toNat_add,e3,e4];show (q + 1) % 18446744073709551616=_;omega
 cases df with
 | false =>
   rw [if_neg B9] at hpv;have hA:=GQ a t d hF Aa (BitVec.ofNat 64 (q)) (by have:=hq;rw [BitVec.toNat_ofNat];omega);rw [show (BitVec.ofNat 64 (q)).toNat=q by have:=hq;rw [BitVec.toNat_ofNat];omega,hpv] at hA;simp only [tH,Aw,Aq,DG,Hd.v,Ba] at hA;refine eX ?_;simp only [f257,Aak,Cl.v,Ad,hst,hpos,He,F5,anG,Tr.H,Aw,Aq,B3,LZ,seval];refine AO (hT) ?_;simp only [Bb,e1,seval];have zz:=Cv @Ax @Cg @b7;refine By [0,1,2,3,4,5] [0,2,4,5] (hA) ?_;simp only [Je,B5,Bt,seval];have zz:=EZ @d9 @f7 @b8 @b9 @DG.eq_1 @x8 @f8 Jq @Ah @Ao @Ax @b7;exact AI hx [0,1,2,3,4,5,6,7,8,9,10] ⟨rfl,rfl,rfl⟩
 | true =>
   rw [if_pos rfl] at hpv;have hA:=GQ a t d hF Aa (BitVec.ofNat 64 (q + 1)) (by have:=hdf rfl;rw [BitVec.toNat_ofNat];omega);rw [show (BitVec.ofNat 64 (q + 1)).toNat=q + 1 by have:=hdf rfl;rw [BitVec.toNat_ofNat];omega,hpv] at hA;simp only [tH,Aw,Aq,DG,Hd.v,Ba] at hA;refine eX ?_;simp only [f257,Aak,Cl.v,Ad,hst,hpos,He,F5,anG,Tr.H,Aw,Aq,B3,LZ,seval];refine AO (hT) ?_;simp only [Bb,e1,seval];have zz:=Cv @Ax @Cg @b7;refine By [0,1,2,3,4,5] [0,2,4,5] (hA) ?_;simp only [Je,B5,Bt,seval];have zz:=EZ @d9 @f7 @b8 @b9 @DG.eq_1 @x8 @f8 Jq @Ah @Ao @Ax @b7;exact AI hx [0,1,2,3,4,5,6,7,8,9,10] ⟨rfl,rfl,rfl⟩
theorem SU (k257:Ar M 257 f257=true) (j:Nat) (df:Bool) (cl:Cl) (hst:cl.st=true) (st:Bool) :
 Ae M 257 [.ptr 6 [],.ptr 8 [],cl.v] [(8,He j st df Dg.zero F5)] 11 (Q3 (Ai (.bool false) .nili) [(8,He j st df Dg.zero F5)] 11):=by
 refine Ab k257 rfl fun x hx=>?_;refine eX ?_;simp only [f257,Aak,Cl.v,Ad,hst,He,F5,LZ,seval];have zz:=AY @d9 @b7;exact AI hx [0,1,2,3,4,5,6,7,8,9,10] ⟨rfl,rfl,rfl⟩
structure Ask where
 cl:Nat
 st:Bool
 df:Bool
 val:Dg
 pr:Nat
instance:Inhabited Ask:=⟨⟨0,false,false,Dg.zero,0⟩⟩
noncomputable def X6 (m0:Mc) (p0:List (Dg × Pr)) (k:Nat):V:=DG (Cd (xs m0 p0 k).1.f 13 0) (xs m0 p0 k).1.h (CJ (xs m0 p0 k).2 (xs m0 p0 k).1).2.1 (CJ (xs m0 p0 k).2 (xs m0 p0 k).1).2.2
theorem TC {m0:Mc} {p0:List (Dg × Pr)} {k:Nat} (h:(CJ (xs m0 p0 k).2 (xs m0 p0 k).1).1=none):pvX m0 p0 k=Ai (X6 m0 p0 k) .nili:=by
 unfold pvX X6;rw [h];rfl
noncomputable def Ask.v (m0:Mc) (p0:List (Dg × Pr)) (x:Ask):V:=He x.cl x.st x.df x.val (if x.st=true then X6 m0 p0 x.pr else F5)
theorem Adq (H:Hp) (m z:List Nat):Ay H m z F5 F5:=by simp only [F5,dg,LY,seval]
theorem Ag4 (H:Hp) (m z:List Nat) (m0:Mc) (p0:List (Dg × Pr)) (k:Nat):Ay H m z (X6 m0 p0 k) (X6 m0 p0 k):=by
 simp only [X6,DG,Hd.v,Ba,BW,BI,dg,seval]
theorem Dp (H:Hp) (m z:List Nat) (m0:Mc) (p0:List (Dg × Pr)) (x:Ask):Ay H m z (x.v m0 p0) (x.v m0 p0)=True:=by
 refine eq_true ?_;have h:Ay H m z (if x.st=true then X6 m0 p0 x.pr else F5) (if x.st=true then X6 m0 p0 x.pr else F5):=by
  split
  ·exact Ag4 _ _ _ _ _ _
  ·exact Adq _ _ _
 simp only [Ask.v,He,dg,h,LY,seval]
def CZ (cm:BitVec 64→Dg) (d:Nat) (c:Nat→Cl) (n own:Nat) (j:Nat):Option Ask :=
 if Gg (c j).pos % 2=own ∨ (c j).rs=true ∨ Nj (fun i=>Fv cm d (c i)) c 100 (c j).par=false then none
 else if Gg (c j).pos=d then (if (c j).st=true then none else some ⟨j,true,Fv cm d (c j),Dg.zero,if Fv cm d (c j)=true then N4 (c j).pos + 1 else N4 (c j).pos⟩)
 else if Dv c j (Db (Fv cm d (c j)) (c j).pos) (cm (BitVec.ofNat 64 (Sg d (Db (Fv cm d (c j)) (c j).pos)) + 1#64)) n=true then none
 else some ⟨j,false,Fv cm d (c j),cm (BitVec.ofNat 64 (Sg d (Db (Fv cm d (c j)) (c j).pos)) + 1#64),0⟩
def Cc (F:Nat→Option Ask):Nat→List Ask
 | 0=>[]
 | i + 1=>Cc F i ++ (F i).toList
theorem CU {l:List Ask} {x:Ask} {j:Nat}:(l ++ [x]).getD j default=if j < l.length then l.getD j default else if j - l.length=0 then x else default:=by
 rw [List.getD_eq_getElem?_getD,List.getD_eq_getElem?_getD];by_cases h:j < l.length
 ·rw [if_pos h,List.getElem?_append_left h]
 ·rw [if_neg h,List.getElem?_append_right Aa];by_cases h2:j - l.length=0
  ·rw [if_pos h2,h2];rfl
  ·rw [if_neg h2,List.getElem?_eq_none FY];rfl
structure Tre (G:Gs):Prop where
 p0:(G.c 0).par = -1
 q0:(G.c 0).pos=1#64
 up:∀ j,1≤j→j < G.n→∃ p k q,p < j∧(G.c j).par=(p:Nat)∧(G.c p).pos=pw k q∧q < 2 ^ k∧k < G.D∧((G.c j).pos=pw (k + 1) (2 * q) ∨ q + 1 < 2 ^ k∧(G.c j).pos=pw (k + 1) (2 * q + 2))
 no:∀ j i,1≤j→j < G.n→i < j→¬ ((G.c i).par=(G.c j).par∧(G.c i).pos=(G.c j).pos∧(G.c i).val=(G.c j).val)
theorem Qk {G H:Gs} (h:Tre G) (hD:H.D=G.D) (hn:H.n=G.n) (hc:∀ j,(H.c j).par=(G.c j).par∧(H.c j).pos=(G.c j).pos∧(H.c j).val=(G.c j).val):Tre H:=by
 refine ⟨by rw [(hc 0).1];exact h.p0,by rw [(hc 0).2.1];exact h.q0,fun j h1 hj=>?_,fun j i h1 hj hi=>?_⟩
 ·obtain ⟨p,k,q,a⟩:=h.up j h1 (hn ▸ hj);refine ⟨p,k,q,?_⟩;rw [(hc j).1,(hc j).2.1,(hc p).2.1,hD];exact a
 ·rw [(hc j).1,(hc j).2.1,(hc j).2.2,(hc i).1,(hc i).2.1,(hc i).2.2];exact h.no j i h1 (hn ▸ hj) hi
theorem Ak0 {G:Gs} (ok:G.ok) (h:Tre G) {a:Int} {df:Bool} {v:Dg} {pl:Int} {bd t:BitVec 64} (he:G.mE a df v pl bd t=none):Tre (G.mT a df v pl bd t):=by
 obtain ⟨p,rfl,hp,hrs,he⟩:=Gs.mE_in he;obtain ⟨k,i,hk,hi,hpos⟩:=ok.w.pls p hp;have hD:=ok.w.hD;have hn0:=ok.n0;unfold Gs.mT;rw [Int.toNat_natCast];rw [hpos,BR Aa hi,CI Aa hi] at he ⊢;obtain ⟨h1,h2,-,h4,-⟩:=YG he;have hA:P9 k i df=pw (k + 1) (2 * i) ∨ i + 1 < 2 ^ k∧P9 k i df=pw (k + 1) (2 * i + 2):=by
  cases df with
  | false=>exact .inl (by simp [P9])
  | true=>exact .inr ⟨Nat.lt_of_le_of_ne hi (fun q=>h2 ⟨rfl,q⟩),by simp [P9]⟩
 have hc:∀ j,j < G.n→(G.mv (mvC G p df v pl t k i) pl.toNat bd).c j=G.c j:=fun j hj=>if_pos hj;have hcn:(G.mv (mvC G p df v pl t k i) pl.toNat bd).c G.n=mvC G p df v pl t k i:=if_neg (Nat.lt_irrefl _);refine ⟨by rw [hc 0 hn0];exact h.p0,by rw [hc 0 hn0];exact h.q0,fun j h1j hj=>?_,fun j i' h1j hj hi'=>?_⟩
 ·have hj:j < G.n + 1:=hj;by_cases hjn:j < G.n
  ·obtain ⟨p',k',q',a1,a2⟩:=h.up j h1j hjn;refine ⟨p',k',q',a1,?_⟩;rw [hc j hjn,hc p' Aa];exact a2
  ·obtain rfl:j=G.n:=Aa;refine ⟨p,k,i,hp,?_⟩;rw [hcn,hc p hp];exact ⟨rfl,hpos,hi,h1,hA⟩
 ·have hj:j < G.n + 1:=hj;by_cases hjn:j < G.n
  ·rw [hc j hjn,hc i' Aa];exact h.no j i' h1j hjn hi'
  ·obtain rfl:j=G.n:=Aa;rw [hcn,hc i' hi'];exact fun q=>h4 ⟨i',hi',q⟩
theorem ZB {G:Gs} (T:Tre G) {j:Nat} (h1:1≤j) (hj:j < G.n):∃ k q,(G.c j).pos=pw k q∧q + 1 < 2 ^ k∧k≤G.D:=by
 obtain ⟨p,k,q,a1,a2,a3,a4,a5,a6⟩:=T.up j h1 hj;have e:2 ^ (k + 1)=2 * 2 ^ k:=KX;rcases a6 with a6 | ⟨a6,a7⟩
 ·exact ⟨k + 1,2 * q,a6,by omega,by omega⟩
 ·exact ⟨k + 1,2 * q + 2,a7,by omega,by omega⟩
structure OkAg (M:Seat):Prop where
 e:OkEp M
 a:OkAx M
 p:OkPt M
 k257:Ar M 257 f257=true
 fn:Gf M 257
theorem GG (F:Nat→Option Ask):∀ i,(Cc F i).length≤i
 | 0=>Nat.le_refl _
 | i + 1 => by
   have ih:=GG F i;rw [Cc,List.length_append];cases F i <;> simp <;> omega
def Ry (l:Nat) (b:Nat):V:=if l=0 then .nils else .sl b [] 0 l 151
theorem Xv {M:Seat} (ok:OkAg M) {m0:Mc} {p0:List (Dg × Pr)} (t:Tr) (d:Nat) (hd:1≤d∧d≤4) (hF:Full m0 p0 d t) (G:Gs) (hG:G.ok) (hD:G.D=d) (T:Tre G) (hpl:∀ i,i < 2 ^ d→(CJ (xs m0 p0 i).2 (xs m0 p0 i).1).1=none) (own:Nat) (ho:own=if Fv (Ct m0 p0) d (G.c 0) then 0 else 1) (A:List Ask) (hA:A=Cc (CZ (Ct m0 p0) d G.c G.n own) G.n) :
 Ae M 124 [.ptr 6 [],.ptr 0 []] (t.H d (Ct m0 p0) ++ G.T) 10 (Q3 (Ai (Ry A.length 10) .nili) (t.H d (Ct m0 p0) ++ G.T ++ (if A.length=0 then [] else [(10,.ar 151 A.length fun j=>(A.getD j default).v m0 p0)])) 11):=by
 have hS:=Jz ok.e.e.v ok.e.e.k359 ok.a t d hd hF G hG hD;rw [← ho] at hS;have hn0:=hG.n0;have hn64:=hG.w.hn;have hz:(G.n=0)=False:=eq_false Aa;have hOwn:own < 2:=by rw [ho];split <;> omega
 simp only [Tr.H,Gs.T,vwI,hz,if_false,hD,As,Av,Ad,A6,AQ,AM,Aw,Aq,B3] at hS;refine Ab ok.e.k124 rfl fun x hx=>?_;refine eX ?_;simp only [f124,Ae9,Tr.H,Gs.T,hD,As,Av,Ad,A6,AQ,AM,Aw,Aq,B3,LZ,seval];have zz:=Qe @f7 @b8 @b9 @Ah @Ao @Ax @Cg @b7;refine By [0,1,2,3,4,5,6,7,8,9] [0,1,2,3,4,5,6,7,8,9] (hS) ?_;simp only [Cz,Au,Cl.v,Ad,AE,B7,B5,Bt,seval];subst hA;generalize hFF:CZ (Ct m0 p0) d G.c G.n own=F;refine Am (σ:=Nat) (fun i=>i≤G.n) (fun i=>fr 99 [(1,.ptr 0 []),(6,.ptr 10 []),(8,Ry (Cc F i).length 13),(30,.sl 11 [] 0 G.n 42),(31,.int .i64 G.n),(32,.int .i64 i)]) (fun i=>t.H d (Ct m0 p0) ++ G.T ++ [(10,.st 5 (.fcons 0 (.ptr 6 []) (.fcons 1 (.ptr 0 []) (.fcons 2 (.sl 11 [] 0 G.n 42) (.fcons 3 (.sl 12 [] 0 G.n 1) (.fcons 4 (.int .i64 own) .fnil)))))),(11,Au G.n G.c),(12,.ar 1 G.n fun j=>.bool (Fv (Ct m0 p0) d (G.c j)))] ++ (if (Cc F i).length=0 then [] else [(13,.ar 151 (Cc F i).length fun j=>((Cc F i).getD j default).v m0 p0)])) (fun _=>14) (fun i=>G.n - i) 0 Aa ?_ ?_
 ·rw [show (Cc F 0).length=0 from rfl];unfold Ry;refine Ak.fr [0,1,2,3,4,5,6,7,8,9,74,75,76,310] [] hx AG Al ?_ ?_
  ·simp only [Int.natCast_zero,if_true,LY,seval]
  ·simp only [Tr.H,Gs.T,hD,As,Av,Ad,Au,Cl.v,A6,AQ,AM,Aw,Aq,if_true,B3,List.append_nil,Ah,Ao,Ax,BI,dg,seval]
 ·intro i hi;by_cases hin:i=G.n
  ·subst hin;have d0:((G.n:Int) < (G.n:Int))=False:=eq_false Aa;generalize Cc F G.n=A;by_cases hl:A.length=0
   ·have hl':=eq_true hl;refine eX ?_;simp only [d0,Ry,hl',Tr.H,Gs.T,hD,As,Av,Ad,Au,Cl.v,A6,AQ,AM,Aw,Aq,B3,List.append_nil,if_true,LZ,seval];have zz:=Em Qu @Ah @Ao @Ax @b7;exact AI hx [0,1,2,3,4,5,6,7,8,9,13] ⟨rfl,rfl,rfl⟩
   ·have hl':=eq_false hl;refine eX ?_;simp only [d0,Ry,hl',Tr.H,Gs.T,hD,As,Av,Ad,Au,Cl.v,A6,AQ,AM,Aw,Aq,B3,List.append_nil,if_false,LZ,seval];have zz:=Gb Qu @Ah @Ao @Ax @Dp @b7;exact AI hx [0,1,2,3,4,5,6,7,8,9,13] ⟨rfl,rfl,rfl⟩
  have hin2:i < G.n:=Nat.lt_of_le_of_ne hi hin;obtain ⟨k,q,hk,hq,hpos⟩:=hG.w.pls i hin2;rw [hD] at hk;have eD:Gg (G.c i).pos=k:=by rw [hpos,BR Aa hq]
  have eI:N4 (G.c i).pos=q:=by rw [hpos,CI Aa hq]
  have hP:=Bv ok.e.e.v.g.t.s.v.g.p (show k≤24 by omega) hq;have hb:(G.c i).par = -1 ∨ ∃ p:Nat,(G.c i).par=p∧p < G.n:=by
   rcases hG.w.prs i Aa with h | ⟨y,h,hy⟩
   ·exact .inl h
   ·exact .inr ⟨y,h,by omega⟩
  have hH:=We ok.e.e.v.g.t.s.v.g.p ok.e.k255 G.n G.D hn64 hG.w.hD G.c hG.w.pls hG.w.prs (fun i=>Fv (Ct m0 p0) d (G.c i)) own (G.c i).par hb;have hqd:Fv (Ct m0 p0) d (G.c i)=true→¬ k % 2=own→q + 1 < 2 ^ k:=by
   intro hr hno;by_cases h0:i=0
   ·subst h0;rw [hr] at ho;rw [T.q0] at hpos;have:Gg (pw 0 0)=0:=BR Al Al;rw [T.q0,show (1#64:BitVec 64)=pw 0 0 by decide,this] at eD;subst eD;exact absurd ho.symm hno
   ·obtain ⟨k',q',g1,g2,g3⟩:=ZB T (Nat.pos_of_ne_zero h0) hin2;have hD2:=hG.w.hD;have g4:k'≤24:=Aa;have g5:q' < 2 ^ k':=Aa;rw [g1,BR g4 g5] at eD;rw [g1,CI g4 g5] at eI;subst eD;subst eI;exact g2
  have hFi:F i=CZ (Ct m0 p0) d G.c G.n own i:=by rw [← hFF]
  unfold CZ at hFi;rw [eD,eI] at hFi;simp only [X4,Au,Cl.v,Ad] at hH;generalize hR:Fv (Ct m0 p0) d (G.c i)=r at *
  generalize hHH:Nj (fun i=>Fv (Ct m0 p0) d (G.c i)) G.c 100 (G.c i).par=hh at *
  have wr:((k:Int).tmod 2)=((k % 2:Nat):Int):=rfl;have d0:((i:Int) < (G.n:Int))=True:=eq_true Aa;have d1:(0≤(i:Int))=True:=eq_true Aa;have wI:IntKind.i64.wrap ((i:Int) + 1)=((i + 1:Nat):Int):=AW;have hLl:=GG F i;generalize hL:Cc F i=L at *
  have hn1:Cc F (i + 1)=L ++ (F i).toList:=by rw [Cc,hL]
  have hl2:(L.length=0)=True ∨ (L.length=0)=False:=by
   by_cases h:L.length=0
   ·exact .inl (eq_true h)
   ·exact .inr (eq_false h)
  rcases hl2 with hl' | hl';all_goals
   by_cases h5:k % 2=own
   ·have hn2:Cc F (i + 1)=L:=by rw [hn1,hFi,if_pos (.inl h5)];simp
    have d5:(((k % 2:Nat):Int)=(own:Int))=True:=eq_true Aa;refine eX ?_;simp only [d0,d1,Ry,hl',Tr.H,Gs.T,hD,As,Av,Ad,Au,Cl.v,A6,AQ,AM,Aw,Aq,B3,List.append_nil,B4,LZ,seval];repeat refine sd ?_
    simp only [hpos,LZ,seval];refine Aj (hP) ?_;simp only [B0,wr,d5,wI,LZ,seval];refine ⟨i + 1,by omega,by omega,?_⟩;rw [hn2];refine Ak.fr [0,1,2,3,4,5,6,7,8,9,10,11,12,13] [] hx AG Al ?_ ?_
    ·simp only [hl',B4,LY,seval]
    ·simp only [hl',B4,Ah,Ao,Ax,Dp,BI,dg,seval]
   have d5:(((k % 2:Nat):Int)=(own:Int))=False:=eq_false Aa;cases hrs:(G.c i).rs with
   | true =>
     have hn2:Cc F (i + 1)=L:=by rw [hn1,hFi,if_pos (.inr (.inl hrs))];simp
     refine eX ?_;simp only [d0,d1,Ry,hl',Tr.H,Gs.T,hD,As,Av,Ad,Au,Cl.v,A6,AQ,AM,Aw,Aq,B3,List.append_nil,B4,LZ,seval];repeat refine sd ?_
     simp only [hpos,LZ,seval];refine Aj (hP) ?_;simp only [B0,wr,d5,hrs,wI,LZ,seval];refine ⟨i + 1,by omega,by omega,?_⟩;rw [hn2];refine Ak.fr [0,1,2,3,4,5,6,7,8,9,10,11,12,13] [] hx AG Al ?_ ?_
     ·simp only [hl',B4,LY,seval]
     ·simp only [hl',B4,Ah,Ao,Ax,Dp,BI,dg,seval]
   | false =>
     cases hhv:hh with
     | false =>
       have hn2:Cc F (i + 1)=L:=by rw [hn1,hFi,if_pos (.inr (.inr hhv))];simp
       subst hhv;refine eX ?_;simp only [d0,d1,Ry,hl',Tr.H,Gs.T,hD,As,Av,Ad,Au,Cl.v,A6,AQ,AM,Aw,Aq,B3,List.append_nil,B4,LZ,seval];repeat refine sd ?_
       simp only [hpos,LZ,seval];refine Aj (hP) ?_;simp only [B0,wr,d5,hrs,wI,LZ,seval];have zz:=@b7;refine By [10,11,12,6,0] [10,11,12] (hH) ?_;simp only [wI,Bn,seval];refine ⟨i + 1,by omega,by omega,?_⟩;rw [hn2];refine Ak.fr [0,1,2,3,4,5,6,7,8,9,10,11,12,13] [] hx AG Al ?_ ?_
       ·simp only [hl',B4,LY,seval]
       ·simp only [hl',B4,Ah,Ao,Ax,Dp,BI,dg,seval]
     | true =>
       subst hhv;have hF3:F i=if k=d then (if (G.c i).st=true then none else some ⟨i,true,r,Dg.zero,if r=true then q + 1 else q⟩) else if Dv G.c i (Db r (G.c i).pos) (Ct m0 p0 (BitVec.ofNat 64 (Sg d (Db r (G.c i).pos)) + 1#64)) G.n=true then none else some ⟨i,false,r,Ct m0 p0 (BitVec.ofNat 64 (Sg d (Db r (G.c i).pos)) + 1#64),0⟩:=by
        rw [hFi,if_neg];rintro (h | h | h)
        ·exact h5 h
        ·rw [hrs] at h;cases h
        ·cases h
       by_cases hkd:k=d
       ·rw [if_pos hkd] at hF3;have d6:((k:Int)=(d:Int))=True:=eq_true Aa;cases hst:(G.c i).st with
        | true =>
          have hn2:Cc F (i + 1)=L:=by rw [hn1,hF3,if_pos hst];simp
          have hSt:=SU ok.k257 i r (G.c i) hst true;simp only [Cl.v,Ad,He,F5,hpos,hrs,hst] at hSt;refine eX ?_;simp only [d0,d1,Ry,hl',Tr.H,Gs.T,hD,As,Av,Ad,Au,Cl.v,A6,AQ,AM,Aw,Aq,B3,List.append_nil,B4,LZ,seval];repeat refine sd ?_
          simp only [hpos,LZ,seval];refine Aj (hP) ?_;simp only [B0,wr,d5,hrs,wI,LZ,seval];have zz:=@b7;refine By [10,11,12,6,0] [10,11,12] (hH) ?_;simp only [wI,d0,d1,d6,hR,hst,Bn,seval];repeat refine sd ?_
          refine R3 (f:=257) ok.fn rfl ?_;have zz:=@b7;refine By [0,1,2,3,4,5,10,11,814,6,12] [814] (hSt) ?_;simp only [Cz,wI,Bt,seval];refine ⟨i + 1,by omega,by omega,?_⟩;rw [hn2];refine Ak.fr [0,1,2,3,4,5,6,7,8,9,10,11,12,13] [] hx AG Al ?_ ?_
          ·simp only [hl',B4,LY,seval]
          ·simp only [hl',B4,hpos,hrs,Ah,Ao,Ax,Dp,BI,dg,seval]
        | false =>
          have hix:(if r=true then q + 1 else q) < 2 ^ d:=by
           split
           ·rename_i hr;rw [← hkd];exact hqd hr h5
           ·rw [← hkd];exact hq
          have hn2:Cc F (i + 1)=L ++ [⟨i,true,r,Dg.zero,if r=true then q + 1 else q⟩]:=by rw [hn1,hF3,if_neg (by rw [hst];simp)];rfl
          have hpv:=TC (hpl _ hix);obtain ⟨R,h,Lp,P,hSp⟩:∃ R h Lp P,X6 m0 p0 (if r=true then q + 1 else q)=DG R h Lp P:=⟨_,_,_,_,rfl⟩
          rw [hSp] at hpv;have hSt:=S5 ok.k257 ok.e.e.k359 ok.e.e.v.g.t.s.v.g.p ok.p t d hd hF G.n G.c own i r (G.c i) q (by rw [← hkd];exact hq) (by rw [hpos,hkd]) (fun hr=>by rw [← hkd];exact hqd hr h5) hst true R h Lp P hpv;simp only [Tr.H,Aw,Aq,anG,Au,Cl.v,Ad,He,F5,DG,Hd.v,Ba,hpos,hrs,hst,B3] at hSt;refine eX ?_;simp only [d0,d1,Ry,hl',Tr.H,Gs.T,hD,As,Av,Ad,Au,Cl.v,A6,AQ,AM,Aw,Aq,B3,List.append_nil,B4,LZ,seval];repeat refine sd ?_
          simp only [hpos,LZ,seval];refine Aj (hP) ?_;simp only [B0,wr,d5,hrs,wI,LZ,seval];have zz:=@b7;refine By [10,11,12,6,0] [10,11,12] (hH) ?_;simp only [wI,d0,d1,d6,hR,hst,Bn,seval];repeat refine sd ?_
          refine R3 (f:=257) ok.fn rfl ?_;have zz:=Em @Ah @Ao @Ax @Cg @b7;refine By [0,1,2,3,4,5,10,11,814,6,12] [0,1,2,3,4,5,10,11,814] (hSt) ?_;simp only [Je,wI,AE,B7,B5,Bt,seval];first
          | have hl0 : L.length = 0 := of_eq_true hl'
            refine ⟨i + 1,by omega,by omega,?_⟩;rw [hn2];refine Ak.fr [0,1,2,3,4,5,6,7,8,9,10,11,12,1470] [] hx AG Al ?_ ?_
            ·simp only [List.length_append,List.length_singleton,hl0,Nat.zero_add,if_false,LY,seval]
            ·simp only [List.length_append,List.length_singleton,hl0,Nat.zero_add,if_false,Ah,Ao,Ax,BI,dg,seval];intro j hj;obtain rfl:j=0:=Aa;rw [CU,if_neg Aa,if_pos Aa];simp only [PX,Ask.v,He,hSp,F5,DG,Hd.v,Ba,BW,dg,Dg.at_zero,BI,seval]
          | have hs1 : (L.length + 1 = 0) = False := eq_false Aa
            refine ⟨by omega,i + 1,by omega,by omega,?_⟩;rw [hn2];refine Ak.fr [0,1,2,3,4,5,6,7,8,9,10,11,12,1470] [] hx AG Al ?_ ?_
            ·simp only [List.length_append,List.length_singleton,hs1,if_false,LY,seval]
            ·simp only [List.length_append,List.length_singleton,hs1,if_false,Ah,Ao,Ax,BI,dg,seval];intro j hj;rw [CU];by_cases hj1:j < L.length
             ·simp only [hj1,if_true,Dp]
             ·obtain rfl:j=L.length:=Aa;simp only [Nat.lt_irrefl,Nat.sub_self,PX,Ask.v,He,hSp,F5,DG,Hd.v,Ba,BW,dg,Dg.at_zero,BI,seval]
       ·rw [if_neg hkd] at hF3;have d6:((k:Int)=(d:Int))=False:=eq_false Aa;have hAn:=VT ok.e.e ok.a t d hd hF G.n hn64 G.c own i r (G.c i) k q Aa hq hpos (fun hr=>hqd hr h5) false;generalize Ct m0 p0 (BitVec.ofNat 64 (Sg d (Db r (G.c i).pos)) + 1#64)=C at *
        generalize Db r (G.c i).pos=wp at *
        simp only [Tr.H,Aw,Aq,anG,Au,Cl.v,Ad,He,F5,hpos,hrs,B3] at hAn;cases hha:Dv G.c i wp C G.n with
        | true =>
          rw [hha] at hAn;have hn2:Cc F (i + 1)=L:=by rw [hn1,hF3,if_pos hha];simp
          refine eX ?_;simp only [d0,d1,Ry,hl',Tr.H,Gs.T,hD,As,Av,Ad,Au,Cl.v,A6,AQ,AM,Aw,Aq,B3,List.append_nil,B4,LZ,seval];repeat refine sd ?_
          simp only [hpos,LZ,seval];refine Aj (hP) ?_;simp only [B0,wr,d5,hrs,wI,LZ,seval];have zz:=@b7;refine By [10,11,12,6,0] [10,11,12] (hH) ?_;simp only [wI,d0,d1,d6,hR,Bn,seval];repeat refine sd ?_
          refine R3 (f:=256) ok.e.fn rfl ?_;have zz:=Em @Ah @Ao @Ax @Cg @b7;refine By [0,1,2,3,4,5,10,11,814,6,12] [0,1,2,3,4,5,10,11,814] (hAn) ?_;simp only [Cz,wI,AE,B7,B5,Bt,Bool.not_true,Bool.not_false,seval];refine ⟨i + 1,by omega,by omega,?_⟩;rw [hn2];refine Ak.fr [0,1,2,3,4,5,6,7,8,9,10,11,12,13] [] hx AG Al ?_ ?_
          ·simp only [hl',B4,LY,seval]
          ·simp only [hl',B4,hpos,hrs,Ah,Ao,Ax,Dp,BI,dg,seval]
        | false =>
          rw [hha] at hAn;have hn2:Cc F (i + 1)=L ++ [⟨i,false,r,C,0⟩]:=by rw [hn1,hF3,if_neg (by rw [hha];simp)];rfl
          refine eX ?_;simp only [d0,d1,Ry,hl',Tr.H,Gs.T,hD,As,Av,Ad,Au,Cl.v,A6,AQ,AM,Aw,Aq,B3,List.append_nil,B4,LZ,seval];repeat refine sd ?_
          simp only [hpos,LZ,seval];refine Aj (hP) ?_;simp only [B0,wr,d5,hrs,wI,LZ,seval];have zz:=@b7;refine By [10,11,12,6,0] [10,11,12] (hH) ?_;simp only [wI,d0,d1,d6,hR,Bn,seval];repeat refine sd ?_
          refine R3 (f:=256) ok.e.fn rfl ?_;have zz:=Em @Ah @Ao @Ax @Cg @b7;refine By [0,1,2,3,4,5,10,11,814,6,12] [0,1,2,3,4,5,10,11,814] (hAn) ?_;simp only [Cz,wI,AE,B7,B5,Bt,Bool.not_true,Bool.not_false,seval];first
          | have hl0 : L.length = 0 := of_eq_true hl'
            refine ⟨i + 1,by omega,by omega,?_⟩;rw [hn2];refine Ak.fr [0,1,2,3,4,5,6,7,8,9,10,11,12,1422] [] hx AG Al ?_ ?_
            ·simp only [List.length_append,List.length_singleton,hl0,Nat.zero_add,if_false,LY,seval]
            ·simp only [List.length_append,List.length_singleton,hl0,Nat.zero_add,if_false,Ah,Ao,Ax,BI,dg,seval];intro j hj;obtain rfl:j=0:=Aa;rw [CU,if_neg Aa,if_pos Aa];simp only [PX,Ask.v,He,F5,DG,Hd.v,Ba,BW,dg,Dg.at_zero,BI,seval]
          | have hs1 : (L.length + 1 = 0) = False := eq_false Aa
            refine ⟨by omega,i + 1,by omega,by omega,?_⟩;rw [hn2];refine Ak.fr [0,1,2,3,4,5,6,7,8,9,10,11,12,1422] [] hx AG Al ?_ ?_
            ·simp only [List.length_append,List.length_singleton,hs1,if_false,LY,seval]
            ·simp only [List.length_append,List.length_singleton,hs1,if_false,Ah,Ao,Ax,BI,dg,seval];intro j hj;rw [CU];by_cases hj1:j < L.length
             ·simp only [hj1,if_true,Dp]
             ·obtain rfl:j=L.length:=Aa;simp only [Nat.lt_irrefl,Nat.sub_self,PX,Ask.v,He,F5,DG,Hd.v,Ba,BW,dg,Dg.at_zero,BI,seval]
end Mv
