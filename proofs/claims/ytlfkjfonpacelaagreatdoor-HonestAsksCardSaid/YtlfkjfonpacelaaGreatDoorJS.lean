/- A part. -/
import Derived.Test.YtlfkjfonpacelaaGreatDoorJQ
import Derived.Test.YtlfkjfonpacelaaGreatDoorJR
set_option linter.all false
set_option maxRecDepth 20000
set_option maxHeartbeats 16000000
namespace Mv
open Go
def D8 (D n:Nat):V:=CB D 0#64 0#64 Dg.zero (.sl 1 [] 0 n 43) (.ptr 2 [])
def rtD (vals:Nat→Dg) (d:Nat) (c:Cl):Bool:=decide (c.val=vals (Sg d c.pos))
theorem I5 {M:Seat} (ok:OkDp M) (k163:Ar M 163 Ad2=true) (d:Nat) (hd:d≤4) (n:Nat) (hn:n≤64) (c:Nat→Cl) (hP:Pls d n c) (vals:Nat→Dg) (hn0:0 < n) :
 Ae M 163 [.ptr 0 [],.sl 3 [] 0 (2 ^ d) 32] [(0,D8 d n),(1,C3 n c),(3,.ar 32 (2 ^ d) fun j=>dg (vals j))] 4 (Q3 (.sl 4 [] 0 n 1) [(0,D8 d n),(1,C3 n c),(3,.ar 32 (2 ^ d) fun j=>dg (vals j)),(4,.ar 1 n fun j=>.bool (rtD vals d (c j)))] 5):=by
 have h16:2 ^ d≤2 ^ 4:=Nat.pow_le_pow_right Al hd;refine Ab k163 rfl fun x hx=>?_;refine eX ?_;simp only [Ad2,Apr,LZ,seval];refine Am (σ:=Nat) (fun i=>i≤n) (fun i=>fr 51 [(0,.ptr 0 []),(1,.sl 3 [] 0 (2 ^ d) 32),(5,if i=0 then .nils else .sl 4 [] 0 i 1),(6,.int .i64 i)]) (fun i=>[(0,D8 d n),(1,C3 n c),(3,.ar 32 (2 ^ d) fun j=>dg (vals j))] ++ (if i=0 then [] else [(4,.ar 1 i fun j=>.bool (rtD vals d (c j)))])) (fun _=>5) (fun i=>n - i) 0 Aa ?_ ?_
 ·refine Ak.fr [0,1,2,3,10] [] hx AG Al ?_ ?_
  ·simp only [Int.natCast_zero,if_true,LY,seval]
  ·simp only [D8,CB,C3,Cl.d,if_true,List.append_nil,dg,LY,seval]
 ·intro i hi;by_cases hin:i=n
  ·subst hin;have d0:((i:Int) < (i:Int))=False:=eq_false Aa;have hz:(i=0)=False:=eq_false Aa;refine eX ?_;simp only [d0,hz,D8,CB,C3,Cl.d,if_false,B3,LZ,seval];have zz:=@b7;exact AI hx [0,1,2,3,4] ⟨rfl,rfl,rfl⟩
  have d0:((i:Int) < (n:Int))=True:=eq_true Aa;have d1:(0≤(i:Int))=True:=eq_true Aa;have wI:IntKind.i64.wrap ((i:Int) + 1)=((i + 1:Nat):Int):=AW;have hs1:(i + 1=0)=False:=eq_false Aa;obtain ⟨k,q,hk,hq,hpos⟩:=hP i Aa;have hT:=GD ok (D:=d) Aa hk hq;have hlt:=Ou hk hq;have hrt:∀ b:Bool,decide ((c i).val=vals (E3 d k q))=rtD vals d (c i):=fun _=>by
   unfold rtD Sg;rw [hpos,BR Aa hq,CI Aa hq]
  have hrt:=hrt true;have e1:(BitVec.ofNat 64 (E3 d k q)).toNat=E3 d k q:=Oo;have d2:(0≤((E3 d k q:Nat):Int))=True:=eq_true Aa;have d3:(((E3 d k q:Nat):Int) < ((2 ^ d:Nat):Int))=True:=eq_true Aa;refine eX ?_;by_cases h0:i=0
  ·have h0':=eq_true h0;simp only [d0,d1,h0',D8,CB,C3,Cl.d,if_true,List.append_nil,hpos,LZ,seval];repeat refine sd ?_
   refine AO (hT) ?_;simp only [Bb,d1,d2,d3,e1,hpos,hrt,wI,Nat.testBit,seval];repeat refine sd ?_
   refine ⟨i + 1,by omega,by omega,?_⟩;refine Ak.fr [0,1,2,3,1205] [] hx AG Al ?_ ?_
   ·simp only [hs1,if_false,LY,seval];exact h0
   ·simp only [hs1,if_false,dg,LY,seval];refine ⟨h0,fun j hj=>?_⟩;obtain rfl:j=i:=Aa;simp only [h0',if_true,LY,seval]
  ·have h0':=eq_false h0;simp only [d0,d1,h0',D8,CB,C3,Cl.d,if_false,B3,hpos,LZ,seval];repeat refine sd ?_
   refine AO (hT) ?_;simp only [Bb,d1,d2,d3,e1,hpos,hrt,wI,Nat.testBit,seval];repeat refine sd ?_
   refine ⟨i + 1,by omega,by omega,?_⟩;refine Ak.fr [0,1,2,3,1205] [] hx AG Al ?_ ?_
   ·simp only [hs1,if_false,LY,seval]
   ·simp only [hs1,if_false,dg,LY,seval];intro j hj;by_cases hji:j < i
    ·simp only [hji,if_true,LY,seval]
    ·obtain rfl:j=i:=Aa;simp only [Nat.sub_self,hji,B4,LY,seval]
theorem Lo {M:Seat} (ok:OkDp M) (k165:Ar M 165 Ki=true) (d:Nat) (hd:d≤4) (n:Nat) (hn:n≤64) (c:Nat→Cl) (hP:Pls d n c) (hR:Prs n c) (rt:Nat→Bool):∀ (f:Nat) (i:Int),i.toNat < f→(i = -1 ∨ ∃ p:Nat,i=p∧p < n) →
 Ae M 165 [.ptr 0 [],.sl 3 [] 0 n 1,.int .i64 i] [(0,D8 d n),(1,C3 n c),(3,.ar 1 n fun j=>.bool (rt j))] 4 (Q3 (.bool (Nj rt c f i)) [(0,D8 d n),(1,C3 n c),(3,.ar 1 n fun j=>.bool (rt j))] 4)
 | 0,i,hf,_=>absurd hf (Nat.not_lt_zero _)
 | g + 1, i, hf, hi => by
   generalize hh:Nj rt c (g + 1) i=R;refine Ab k165 rfl fun x hx=>?_;rcases hi with rfl | ⟨p,rfl,hp⟩
   ·have hR1:R=true:=by rw [← hh,Nj,if_pos Al]
    refine eX ?_;simp only [Ki,Pc,D8,CB,C3,Cl.d,LZ,seval];have zz:=AY hR1 @b7;exact AI hx [0,1,2,3] ⟨rfl,rfl,rfl⟩
   rw [Nj,if_neg Aa] at hh;simp only [Int.toNat_natCast] at hh hf;have d0:((p:Int) < 0)=False:=eq_false Aa;have d1:(0≤(p:Int))=True:=eq_true Aa;have d2:((p:Int) < (n:Int))=True:=eq_true Aa;cases hr:rt p with
   | false =>
     rw [if_pos hr] at hh;refine eX ?_;simp only [Ki,Pc,d0,d1,d2,D8,CB,C3,Cl.d,hr,LZ,seval];repeat refine sd ?_
     have zz:=AY hh @b7;exact AI hx [0,1,2,3] ⟨rfl,rfl,rfl⟩
   | true =>
     rw [if_neg (by rw [hr];simp)] at hh;rcases hR p hp with hpar | ⟨q,hpar,hq⟩
     ·rw [if_pos (by rw [hpar];decide)] at hh;refine eX ?_;simp only [Ki,Pc,d0,d1,d2,D8,CB,C3,Cl.d,hr,hpar,LZ,seval];repeat refine sd ?_
      have zz:=AY hh @b7;exact AI hx [0,1,2,3] ⟨rfl,rfl,rfl⟩
     ·have hpar':(c p).par.toNat=q:=by rw [hpar];rfl
      rw [if_neg (by rw [hpar];omega),hpar'] at hh;obtain ⟨k,u,hk,hu,hpos⟩:=hP q Aa;obtain ⟨k2,u2,hk2,hu2,hpos2⟩:=hP p hp;have hA:=HX ok (show k < 24 by omega) hu;have d3:((q:Int) < 0)=False:=eq_false Aa;have d4:(0≤(q:Int))=True:=eq_true Aa;have d5:((q:Int) < (n:Int))=True:=eq_true Aa;have hw:Db (rt q) (c q).pos=if rt q=true then (if u + 1 < 2 ^ k then pw (k + 1) (2 * u + 2) else 0#64) else pw (k + 1) (2 * u):=by
       unfold Db;rw [hpos,BR Aa hu,CI Aa hu]
      have hb:(c q).par = -1 ∨ ∃ p:Nat,(c q).par=p∧p < n:=by
       rcases hR q Aa with h | ⟨y,h,hy⟩
       ·exact .inl h
       ·exact .inr ⟨y,h,by omega⟩
      have hb3:(c q).par.toNat < g:=by
       rcases hR q Aa with h | ⟨y,h,hy⟩ <;> omega
      have ih:=Lo ok k165 d hd n hn c hP hR rt g (c q).par hb3 hb;simp only [D8,CB,C3,Cl.d] at ih;generalize Nj rt c g (c q).par=Y at *
      cases hrq:rt q with
      | false =>
        rw [hrq] at hw hh;rw [if_neg B9] at hw;rw [hw] at hh;generalize pw (k + 1) (2 * u)=y at *
        by_cases hcp:(c p).pos=y
        ·rw [if_pos hcp] at hh;subst hh;refine eX ?_;simp only [Ki,Pc,d0,d1,d2,d3,d4,d5,D8,CB,C3,Cl.d,hr,hpar,hpos,LZ,seval];repeat refine sd ?_
         refine Aj (hA) ?_;simp only [Bb,d0,d1,d2,d3,d4,d5,hrq,hcp,seval];repeat refine sd ?_
         have zz:=@b7;refine By [0,1,2,3] [0,1,3] (ih) ?_;simp only [Bn,seval];have zz:=@b7;exact AI hx [0,1,2,3] ⟨rfl,rfl,rfl⟩
        ·rw [if_neg hcp] at hh;have hcp':=eq_false hcp;refine eX ?_;simp only [Ki,Pc,d0,d1,d2,d3,d4,d5,D8,CB,C3,Cl.d,hr,hpar,hpos,LZ,seval];repeat refine sd ?_
         refine Aj (hA) ?_;simp only [Bb,d0,d1,d2,d3,d4,d5,hrq,hcp',seval];repeat refine sd ?_
         have zz:=AY hh @b7;exact AI hx [0,1,2,3] ⟨rfl,rfl,rfl⟩
      | true =>
        rw [hrq] at hw hh;rw [if_pos rfl] at hw;by_cases h2:u + 1 < 2 ^ k
        ·rw [if_pos h2] at hw;rw [hw] at hh;have hDf:=Hr ok (show k < 24 by omega) h2;generalize pw (k + 1) (2 * u + 2)=y at *
         generalize pw (k + 1) (2 * u)=y0 at *
         by_cases hcp:(c p).pos=y
         ·rw [if_pos hcp] at hh;subst hh;refine eX ?_;simp only [Ki,Pc,d0,d1,d2,d3,d4,d5,D8,CB,C3,Cl.d,hr,hpar,hpos,LZ,seval];repeat refine sd ?_
          refine Aj (hA) ?_;simp only [Bb,d0,d1,d2,d3,d4,d5,hrq,hpos,seval];repeat refine sd ?_
          refine Aj (hDf) ?_;simp only [Bb,d0,d1,d2,d3,d4,d5,hrq,hcp,seval];repeat refine sd ?_
          have zz:=@b7;refine By [0,1,2,3] [0,1,3] (ih) ?_;simp only [Bn,seval];have zz:=@b7;exact AI hx [0,1,2,3] ⟨rfl,rfl,rfl⟩
         ·rw [if_neg hcp] at hh;have hcp':=eq_false hcp;refine eX ?_;simp only [Ki,Pc,d0,d1,d2,d3,d4,d5,D8,CB,C3,Cl.d,hr,hpar,hpos,LZ,seval];repeat refine sd ?_
          refine Aj (hA) ?_;simp only [Bb,d0,d1,d2,d3,d4,d5,hrq,hpos,seval];repeat refine sd ?_
          refine Aj (hDf) ?_;simp only [Bb,d0,d1,d2,d3,d4,d5,hrq,hcp',seval];repeat refine sd ?_
          have zz:=AY hh @b7;exact AI hx [0,1,2,3] ⟨rfl,rfl,rfl⟩
        ·rw [if_neg h2] at hw;have hne:¬ (c p).pos=0#64:=by
          rw [hpos2];unfold pw;intro h;have:=congrArg BitVec.toNat h;rw [BitVec.toNat_ofNat] at this;have e1:2 ^ k2≤2 ^ 4:=Nat.pow_le_pow_right Al Aa;have e2:=Nat.two_pow_pos k2;have e3:(0#64:BitVec 64).toNat=0:=rfl;omega
         rw [hw,if_neg hne] at hh;have hDf:=MV ok (show k < 24 by omega) (show u + 1=2 ^ k by omega);generalize pw (k + 1) (2 * u)=y0 at *
         refine eX ?_;simp only [Ki,Pc,d0,d1,d2,d3,d4,d5,D8,CB,C3,Cl.d,hr,hpar,hpos,LZ,seval];repeat refine sd ?_
         refine Aj (hA) ?_;simp only [Bb,d0,d1,d2,d3,d4,d5,hrq,hpos,seval];repeat refine sd ?_
         refine Aj (hDf) ?_;simp only [Bb,d0,d1,d2,d3,d4,d5,hrq,seval];have zz:=AY hh @b7;exact AI hx [0,1,2,3] ⟨rfl,rfl,rfl⟩
def Ask.d (x:Ask):V:=.st 36 (.fcons 0 (.int .i64 x.cl) (.fcons 1 (.bool x.st) (.fcons 2 (.bool x.df) (.fcons 3 (dg x.val) (.fcons 35 (W (BitVec.ofNat 64 x.pr)) .fnil)))))
theorem I0 (H:Hp) (m z:List Nat) (x:Ask):Ay H m z x.d x.d=True:=eq_true (by simp only [Ask.d,dg,LY,seval])
def Gm (l:Nat) (b:Nat):V:=if l=0 then .nils else .sl b [] 0 l 36
theorem Aim (cm:BitVec 64→Dg) (d:Nat) (c:Cl):rtD (fun i=>cm (BitVec.ofNat 64 i + 1#64)) d c=Fv cm d c:=by
 unfold rtD Fv;by_cases h:cm (BitVec.ofNat 64 (Sg d c.pos) + 1#64)=c.val
 ·rw [decide_eq_true h,decide_eq_true h.symm]
 ·rw [decide_eq_false h,decide_eq_false (fun q=>h q.symm)]
def Gn (cm:BitVec 64→Dg) (d n:Nat) (c:Nat→Cl):Hp:=[(0,D8 d n),(1,C3 n c),(3,.ar 32 (2 ^ d) fun j=>dg (cm (BitVec.ofNat 64 j + 1#64))),(4,.ar 1 n fun j=>.bool (Fv cm d (c j)))]
def GO (L:List Ask):Hp:=if L.length=0 then [] else [(5,.ar 36 L.length fun j=>(L.getD j default).d)]
def Kq (d n oth:Nat) (L:List Ask) (i:Nat):List V:=fr 178 [(0,.ptr 0 []),(1,.sl 3 [] 0 (2 ^ d) 32),(5,.sl 4 [] 0 n 1),(6,.int .i64 oth),(7,Gm L.length 5),(8,.int .i64 i)]
def VJ (d n oth:Nat) (L:List Ask) (i:Nat) (ab:Nat) (p:BitVec 64) (fl:Bool) (j:V):List V:=fr 178 [(0,.ptr 0 []),(1,.sl 3 [] 0 (2 ^ d) 32),(5,.sl 4 [] 0 n 1),(6,.int .i64 oth),(7,Gm L.length 5),(8,.int .i64 i),(12,.ptr ab []),(13,W p),(17,.bool fl),(18,j)]
theorem Avc {M:Seat} {x:Ctx} {Q:List V→Hp→Nat→Prop} {K:List It} (cm:BitVec 64→Dg) (d n oth:Nat) (c:Nat→Cl) (L:List Ask) (hL:L.length≤64) (i:Nat) (a:Ask) (p:BitVec 64) (fl:Bool) (jv:V) (hx:x.k=4)
 (hk:AV M x Q K 6 (Kq d n oth (L ++ if fl=true then [] else [a]) i) (Gn cm d n c ++ GO (L ++ if fl=true then [] else [a]))) :
 AV M x Q (.code WI :: K) 7 (VJ d n oth L i 6 p fl jv) (Gn cm d n c ++ GO L ++ [(6,a.d)]):=by
 cases fl with
 | true =>
   rw [if_pos rfl,List.append_nil] at hk;by_cases hl:L.length=0
   ·have hl':=eq_true hl;refine es 4 ?_;simp only [WI,VJ,Gn,GO,Gm,hl',D8,CB,C3,Cl.d,Ask.d,if_true,List.append_nil,B3,LZ,seval];refine AV.weak _ _ _ ?_ hk;unfold Kq Gn GO Gm;refine Ak.fr [0,1,2,3,4,5] [] hx AG Al ?_ ?_
    ·simp only [hl',if_true,LY,seval]
    ·simp only [hl',D8,CB,C3,Cl.d,if_true,List.append_nil,dg,LY,seval]
   ·have hl':=eq_false hl;refine es 4 ?_;simp only [WI,VJ,Gn,GO,Gm,hl',D8,CB,C3,Cl.d,Ask.d,if_false,B3,LZ,seval];refine AV.weak _ _ _ ?_ hk;unfold Kq Gn GO Gm;refine Ak.fr [0,1,2,3,4,5] [] hx AG Al ?_ ?_
    ·simp only [hl',if_false,LY,seval]
    ·simp only [hl',D8,CB,C3,Cl.d,Ask.d,if_false,B3,dg,LY,seval]
 | false =>
   rw [if_neg B9] at hk;by_cases hl:L.length=0
   ·have hl':=eq_true hl;refine es 4 ?_;simp only [WI,VJ,Gn,GO,Gm,hl',D8,CB,C3,Cl.d,Ask.d,if_true,List.append_nil,B3,LZ,seval];have hl0:L.length=0:=hl;refine AV.weak _ _ _ ?_ hk;unfold Kq Gn GO Gm;refine Ak.fr [0,1,2,3,4,87] [] hx AG Al ?_ ?_
    ·simp only [List.length_append,List.length_singleton,hl0,Nat.zero_add,if_false,LY,seval]
    ·simp only [List.length_append,List.length_singleton,hl0,Nat.zero_add,if_false,B3,D8,CB,C3,Cl.d,dg,LY,seval];intro j hj;obtain rfl:j=0:=Aa;rw [CU,if_neg Aa,if_pos Aa];simp only [if_true,Ask.d,dg,LY,seval]
   ·have hl':=eq_false hl;have hs1:(L.length + 1=0)=False:=eq_false Aa;refine es 4 ?_;simp only [WI,VJ,Gn,GO,Gm,hl',D8,CB,C3,Cl.d,Ask.d,if_false,B3,LZ,seval];repeat refine sd ?_
    refine AV.weak _ _ _ ?_ hk;unfold Kq Gn GO Gm;refine Ak.fr [0,1,2,3,4,87] [] hx AG Al ?_ ?_
    ·simp only [List.length_append,List.length_singleton,hs1,if_false,LY,seval]
    ·simp only [List.length_append,List.length_singleton,hs1,if_false,B3,D8,CB,C3,Cl.d,dg,LY,seval];intro j hj;rw [CU];by_cases hj1:j < L.length
     ·simp only [hj1,if_true,Ask.d,dg,LY,seval]
     ·obtain rfl:j=L.length:=Aa;simp only [Nat.lt_irrefl,Nat.sub_self,B4,Ask.d,dg,LY,seval]
theorem Ava {M:Seat} {x:Ctx} (hx:x.k=4) {Q:List V→Hp→Nat→Prop} {K:List It} (cm:BitVec 64→Dg) (d n oth:Nat) (hn:n≤64) (c:Nat→Cl) (L:List Ask) (i:Nat) (a:Ask) (p:BitVec 64)
 (hk:AV M x Q K 7 (VJ d n oth L i 6 p (Dv c i p a.val n) (.int .i64 n)) (Gn cm d n c ++ GO L ++ [(6,a.d)])) {A:List V} {H:Hp} {N:Nat} (hw:Ak M x A H N (VJ d n oth L i 6 p false (.int .i64 (0:Nat))) (Gn cm d n c ++ GO L ++ [(6,a.d)]) 7) :
 Hs M x Q XI (.blk 2 :: K) A H N:=by
 refine Am (σ:=Nat) (fun j=>j≤n) (fun j=>VJ d n oth L i 6 p (Dv c i p a.val j) (.int .i64 j)) (fun _=>Gn cm d n c ++ GO L ++ [(6,a.d)]) (fun _=>7) (fun j=>n - j) 0 Aa hw ?_;intro j hj;have hl2:(L.length=0)=True ∨ (L.length=0)=False:=by
  by_cases h:L.length=0
  ·exact .inl (eq_true h)
  ·exact .inr (eq_false h)
 by_cases hjn:j=n
 ·subst hjn;have d0:((j:Int) < (j:Int))=False:=eq_false Aa;rcases hl2 with hl' | hl';all_goals
   refine es 5 ?_;simp only [XI,VJ,Gn,GO,Gm,hl',d0,D8,CB,C3,Cl.d,Ask.d,B4,List.append_nil,B3,LZ,seval];refine AV.weak _ _ _ ?_ hk;unfold VJ Gn GO Gm;refine Ak.fr [0,1,2,3,4,5,6] [] hx AG Al ?_ ?_
   ·simp only [hl',B4,LY,seval]
   ·simp only [hl',D8,CB,C3,Cl.d,Ask.d,B4,List.append_nil,B3,dg,LY,seval]
 have d0:((j:Int) < (n:Int))=True:=eq_true Aa;have d1:(0≤(j:Int))=True:=eq_true Aa;have wI:IntKind.i64.wrap ((j:Int) + 1)=((j + 1:Nat):Int):=AW;cases hh:Dv c i p a.val j with
 | true =>
   have hs1:Dv c i p a.val (j + 1)=true:=by rw [Dv,hh];rfl
   rcases hl2 with hl' | hl';all_goals
    refine eX ?_;simp only [XI,VJ,Gn,GO,Gm,hl',hh,d0,d1,wI,D8,CB,C3,Cl.d,Ask.d,B4,List.append_nil,B3,LZ,seval];refine ⟨j + 1,by omega,by omega,?_⟩;rw [hs1];refine Ak.fr [0,1,2,3,4,5,6] [] hx AG Al ?_ ?_
    ·simp only [hl',B4,LY,seval]
    ·simp only [hl',D8,CB,C3,Cl.d,Ask.d,B4,List.append_nil,B3,dg,LY,seval]
 | false =>
   have hs:Dv c i p a.val (j + 1)=decide ((c j).par=(i:Int)∧(c j).pos=p∧(c j).val=a.val):=by rw [Dv,hh];rfl
   have hdd:∃ b,Dv c i p a.val (j + 1)=b∧((((c j).par=(i:Int))=True∧((c j).pos=p)=True∧((c j).val=a.val)=True∧b=true) ∨ (((c j).par=(i:Int))=False∧b=false) ∨ (((c j).par=(i:Int))=True∧((c j).pos=p)=False∧b=false) ∨ (((c j).par=(i:Int))=True∧((c j).pos=p)=True∧((c j).val=a.val)=False∧b=false)):=by
    by_cases g1:(c j).par=(i:Int)
    ·by_cases g2:(c j).pos=p
     ·by_cases g3:(c j).val=a.val
      ·exact ⟨true,by rw [hs];exact decide_eq_true ⟨g1,g2,g3⟩,.inl ⟨eq_true g1,eq_true g2,eq_true g3,rfl⟩⟩
      ·exact ⟨false,by rw [hs];exact decide_eq_false (fun h=>g3 h.2.2),.inr (.inr (.inr ⟨eq_true g1,eq_true g2,eq_false g3,rfl⟩))⟩
     ·exact ⟨false,by rw [hs];exact decide_eq_false (fun h=>g2 h.2.1),.inr (.inr (.inl ⟨eq_true g1,eq_false g2,rfl⟩))⟩
    ·exact ⟨false,by rw [hs];exact decide_eq_false (fun h=>g1 h.1),.inr (.inl ⟨eq_false g1,rfl⟩)⟩
   obtain ⟨b,hs1,hdd⟩:=hdd;rcases hdd with hdd | hdd | hdd | hdd <;> rcases hl2 with hl' | hl';all_goals
    refine eX ?_;simp only [XI,VJ,Gn,GO,Gm,hl',hh,d0,d1,wI,hdd,D8,CB,C3,Cl.d,Ask.d,B4,List.append_nil,B3,LZ,seval];repeat refine sd ?_
    refine ⟨j + 1,by omega,by omega,?_⟩;rw [hs1];refine Ak.fr [0,1,2,3,4,5,6] [] hx AG Al ?_ ?_
    ·simp only [hl',hdd,B4,LY,seval]
    ·simp only [hl',D8,CB,C3,Cl.d,Ask.d,B4,List.append_nil,B3,dg,LY,seval]
theorem Acr {M:Seat} {x:Ctx} (hx:x.k=4) {Q:List V→Hp→Nat→Prop} {J:List V→Hp→Nat→Prop} (ok:OkDp M) (k165:Ar M 165 Ki=true) (d:Nat) (hd:1≤d∧d≤4) (n:Nat) (hn:n≤64) (c:Nat→Cl) (hP:Pls d n c) (hR:Prs n c) (cm:BitVec 64→Dg) (own oth:Nat) (hoo:own + oth=1) (i:Nat) (hi:i < n)
 (hQ:Fv cm d (c i)=true→¬ Gg (c i).pos % 2=own→N4 (c i).pos + 1 < 2 ^ Gg (c i).pos) (L:List Ask) (hL:L.length≤i)
 (hJ:∀ A H N,Ak M x A H N (Kq d n oth (L ++ (CZ cm d c n own i).toList) (i + 1)) (Gn cm d n c ++ GO (L ++ (CZ cm d c n own i).toList)) 6→J A H N) :
 AV M x Q [.code MZ,.inv J,.blk 0,.code Ahy] 6 (Kq d n oth L i) (Gn cm d n c ++ GO L):=by
 have h16:2 ^ d≤2 ^ 4:=Nat.pow_le_pow_right Al hd.2;obtain ⟨k,q,hk,hq,hpos⟩:=hP i hi;have eD:Gg (c i).pos=k:=by rw [hpos,BR Aa hq]
 have eI:N4 (c i).pos=q:=by rw [hpos,CI Aa hq]
 have hb:(c i).par = -1 ∨ ∃ p:Nat,(c i).par=p∧p < n:=by
  rcases hR i hi with h | ⟨y,h,hy⟩
  ·exact .inl h
  ·exact .inr ⟨y,h,by omega⟩
 have hH:=Lo ok k165 d hd.2 n hn c hP hR (fun i=>Fv cm d (c i)) 100 (c i).par (by rcases hb with h | ⟨p,h,hp⟩ <;> omega) hb;have hT:=GD ok (D:=d) Aa hk hq;rw [← hpos] at hT;generalize hF:CZ cm d c n own i=Fi at *
 unfold CZ at hF;rw [eD,eI] at hF hQ;simp only [D8,CB,C3,Cl.d] at hH;generalize hRr:Fv cm d (c i)=r at *
 generalize hHH:Nj (fun i=>Fv cm d (c i)) c 100 (c i).par=hh at *
 have wr:((k:Int).tmod 2)=((k % 2:Nat):Int):=rfl;have d0:((i:Int) < (n:Int))=True:=eq_true Aa;have d1:(0≤(i:Int))=True:=eq_true Aa;have wI:IntKind.i64.wrap ((i:Int) + 1)=((i + 1:Nat):Int):=AW;have hl2:(L.length=0)=True ∨ (L.length=0)=False:=by
  by_cases h:L.length=0
  ·exact .inl (eq_true h)
  ·exact .inr (eq_false h)
 by_cases h5:k % 2=own
 ·have hn2:Fi=none:=by rw [← hF,if_pos (.inl h5)]
  have d5:(((k % 2:Nat):Int)=(oth:Int))=False:=eq_false Aa;subst hn2;rw [Option.toList_none,List.append_nil] at hJ;rcases hl2 with hl' | hl';all_goals
   refine eX ?_;simp only [MZ,Kq,Gn,GO,Gm,hl',d0,d1,D8,CB,C3,Cl.d,B4,List.append_nil,B3,LZ,seval];repeat refine sd ?_
   simp only [eD,wr,d5,wI,LZ,seval];refine hJ _ _ _ ?_;unfold Kq Gn GO Gm;refine Ak.fr [0,1,2,3,4,5] [] hx AG Al ?_ ?_
   ·simp only [hl',B4,LY,seval]
   ·simp only [hl',D8,CB,C3,Cl.d,Ask.d,B4,List.append_nil,B3,dg,LY,seval]
 have d5:(((k % 2:Nat):Int)=(oth:Int))=True:=eq_true Aa;cases hrs:(c i).rs with
 | true =>
   have hn2:Fi=none:=by rw [← hF,if_pos (.inr (.inl hrs))]
   subst hn2;rw [Option.toList_none,List.append_nil] at hJ;rcases hl2 with hl' | hl';all_goals
    refine eX ?_;simp only [MZ,Kq,Gn,GO,Gm,hl',d0,d1,D8,CB,C3,Cl.d,B4,List.append_nil,B3,LZ,seval];repeat refine sd ?_
    simp only [eD,wr,d5,hrs,wI,LZ,seval];refine hJ _ _ _ ?_;unfold Kq Gn GO Gm;refine Ak.fr [0,1,2,3,4,5] [] hx AG Al ?_ ?_
    ·simp only [hl',B4,LY,seval]
    ·simp only [hl',D8,CB,C3,Cl.d,Ask.d,B4,List.append_nil,B3,dg,LY,seval]
 | false =>
   cases hhv:hh with
   | false =>
     have hn2:Fi=none:=by rw [← hF,if_pos (.inr (.inr hhv))]
     subst hn2;subst hhv;rw [Option.toList_none,List.append_nil] at hJ;rcases hl2 with hl' | hl';all_goals
      refine eX ?_;simp only [MZ,Kq,Gn,GO,Gm,hl',d0,d1,D8,CB,C3,Cl.d,B4,List.append_nil,B3,LZ,seval];repeat refine sd ?_
      simp only [eD,wr,d5,hrs,wI,LZ,seval];have zz:=@b7;refine By [0,1,2,4] [0,1,4] (hH) ?_;simp only [wI,Bn,seval];refine hJ _ _ _ ?_;unfold Kq Gn GO Gm;refine Ak.fr [0,1,2,3,4,5] [] hx AG Al ?_ ?_
      ·simp only [hl',B4,LY,seval]
      ·simp only [hl',D8,CB,C3,Cl.d,Ask.d,B4,List.append_nil,B3,dg,LY,seval]
   | true =>
     rw [if_neg (by rintro (h | h | h);exact h5 h;rw [hrs] at h;cases h;rw [hhv] at h;cases h)] at hF;subst hhv;by_cases hkd:k=d
     ·have d6:((k:Int)=(d:Int))=True:=eq_true Aa;rw [if_pos hkd] at hF;have hTi:E3 d k q=q:=by unfold E3;rw [hkd];simp
      rw [hTi] at hT;have e1:BitVec.ofNat 64 q + 1#64=BitVec.ofNat 64 (q + 1):=by
       have e5:q < 2 ^ d:=by rw [← hkd];exact hq
       have e3:(BitVec.ofNat 64 q).toNat=q:=Oo;have e4:(BitVec.ofNat 64 (q + 1)).toNat=q + 1:=Oo;apply BitVec.eq_of_toNat_eq;rw [BitVec.toNat_add,e3,e4];show (q + 1) % 18446744073709551616=_;omega
      cases hst:(c i).st with
      | true =>
        rw [if_pos hst] at hF;subst hF;rw [Option.toList_none,List.append_nil] at hJ;rcases hl2 with hl' | hl' <;> cases r;all_goals
         refine eX ?_;simp only [MZ,Kq,Gn,GO,Gm,hl',d0,d1,D8,CB,C3,Cl.d,B4,List.append_nil,B3,LZ,seval];repeat refine sd ?_
         simp only [eD,wr,d5,hrs,wI,LZ,seval];have zz:=@b7;refine By [0,1,2,4] [0,1,4] (hH) ?_;simp only [wI,d0,d1,d6,eD,hRr,hst,Bn,seval];repeat refine sd ?_
         refine AO (hT) ?_;simp only [Cz,d0,d1,d6,eD,hRr,hst,e1,wI,Nat.testBit,seval];repeat refine sd ?_
         refine hJ _ _ _ ?_;unfold Kq Gn GO Gm;refine Ak.fr [0,1,2,3,4,5] [] hx AG Al ?_ ?_
         ·simp only [hl',B4,LY,seval]
         ·simp only [hl',D8,CB,C3,Cl.d,Ask.d,B4,List.append_nil,B3,dg,LY,seval]
      | false =>
        rw [if_neg (by rw [hst];simp)] at hF;subst hF;rw [show (some (Ask.mk i true r Dg.zero (if r=true then q + 1 else q))).toList=[Ask.mk i true r Dg.zero (if r=true then q + 1 else q)] from rfl] at hJ;rcases hl2 with hl' | hl' <;> cases r;all_goals
         refine eX ?_;simp only [MZ,Kq,Gn,GO,Gm,hl',d0,d1,D8,CB,C3,Cl.d,B4,List.append_nil,B3,LZ,seval];repeat refine sd ?_
         simp only [eD,wr,d5,hrs,wI,LZ,seval];have zz:=@b7;refine By [0,1,2,4] [0,1,4] (hH) ?_;simp only [wI,d0,d1,d6,eD,hRr,hst,Bn,seval];repeat refine sd ?_
         refine AO (hT) ?_;simp only [Cz,d0,d1,d6,eD,hRr,hst,e1,wI,Nat.testBit,seval];repeat refine sd ?_
         refine hJ _ _ _ ?_;unfold Kq Gn GO Gm;first
         | have hl0 : L.length = 0 := of_eq_true hl'
           refine Ak.fr [0,1,2,3,4,1478] [] hx AG Al ?_ ?_
           ·simp only [List.length_append,List.length_singleton,hl0,Nat.zero_add,if_false,LY,seval]
           ·simp only [List.length_append,List.length_singleton,hl0,Nat.zero_add,if_false,B3,D8,CB,C3,Cl.d,dg,LY,seval];intro j hj;obtain rfl:j=0:=Aa;rw [CU,if_neg Aa,if_pos Aa];simp only [PX,Ask.d,dg,Dg.at_zero,LY,seval]
            done
         | have hs1 : (L.length + 1 = 0) = False := eq_false Aa
           refine Ak.fr [0,1,2,3,4,1478] [] hx AG Al ?_ ?_
           ·simp only [List.length_append,List.length_singleton,hs1,if_false,LY,seval]
           ·simp only [List.length_append,List.length_singleton,hs1,if_false,B3,D8,CB,C3,Cl.d,dg,LY,seval];intro j hj;rw [CU];by_cases hj1:j < L.length
            ·simp only [hj1,if_true,Ask.d,dg,LY,seval]
            ·obtain rfl:j=L.length:=Aa;simp only [Nat.lt_irrefl,Nat.sub_self,PX,Ask.d,dg,Dg.at_zero,LY,seval]
             done
         | have hl0 : L.length = 0 := of_eq_true hl'
           refine Ak.fr [0,1,2,3,4,1542] [] hx AG Al ?_ ?_
           ·simp only [List.length_append,List.length_singleton,hl0,Nat.zero_add,if_false,LY,seval]
           ·simp only [List.length_append,List.length_singleton,hl0,Nat.zero_add,if_false,B3,D8,CB,C3,Cl.d,dg,LY,seval];intro j hj;obtain rfl:j=0:=Aa;rw [CU,if_neg Aa,if_pos Aa];simp only [PX,Ask.d,dg,Dg.at_zero,LY,seval]
            done
         | have hs1 : (L.length + 1 = 0) = False := eq_false Aa
           refine Ak.fr [0,1,2,3,4,1542] [] hx AG Al ?_ ?_
           ·simp only [List.length_append,List.length_singleton,hs1,if_false,LY,seval]
           ·simp only [List.length_append,List.length_singleton,hs1,if_false,B3,D8,CB,C3,Cl.d,dg,LY,seval];intro j hj;rw [CU];by_cases hj1:j < L.length
            ·simp only [hj1,if_true,Ask.d,dg,LY,seval]
            ·obtain rfl:j=L.length:=Aa;simp only [Nat.lt_irrefl,Nat.sub_self,PX,Ask.d,dg,Dg.at_zero,LY,seval]
             done
     ·have d6:((k:Int)=(d:Int))=False:=eq_false Aa;rw [if_neg hkd] at hF;obtain ⟨u,hu,hw,hw1,hw2⟩:∃ u,u < 2 ^ (k + 1)∧Db r (c i).pos=pw (k + 1) u∧Ae M 266 [W (c i).pos] [] 0 (fun r' H' k'=>r'=Ai (W (pw (k + 1) (2 * q))) (.int .i64 0)∧H'=[]∧k'=0)∧((r=false∧pw (k + 1) (2 * q)=pw (k + 1) u) ∨ (r=true∧Ae M 267 [W (c i).pos] [] 0 (fun r' H' k'=>r'=Ai (W (pw (k + 1) u)) (.int .i64 0)∧H'=[]∧k'=0))):=by
       have e:2 ^ (k + 1)=2 * 2 ^ k:=KX;have hA:=HX ok (show k < 24 by omega) hq;unfold Db;rw [eD,eI];rw [hpos];cases r with
       | false=>exact ⟨2 * q,by omega,by rw [if_neg B9],hA,.inl ⟨rfl,rfl⟩⟩
       | true =>
         have h2:=hQ rfl h5;exact ⟨2 * q + 2,by omega,by rw [if_pos rfl,if_pos h2],hA,.inr ⟨rfl,Hr ok (show k < 24 by omega) h2⟩⟩
      have hT2:=GD ok (D:=d) Aa (show k + 1≤d by omega) hu;have hlt:=Ou (show k + 1≤d by omega) hu;have ex:Sg d (pw (k + 1) u)=E3 d (k + 1) u:=by unfold Sg;rw [BR Aa hu,CI Aa hu]
      rw [hw,ex] at hF;have e1:(BitVec.ofNat 64 (E3 d (k + 1) u)).toNat=E3 d (k + 1) u:=Oo;have d7:(0≤((E3 d (k + 1) u:Nat):Int))=True:=eq_true Aa;have d8:(((E3 d (k + 1) u:Nat):Int) < ((2 ^ d:Nat):Int))=True:=eq_true Aa;generalize E3 d (k + 1) u=ti at *
      generalize pw (k + 1) u=p at *
      generalize pw (k + 1) (2 * q)=pa at *
      generalize BitVec.ofNat 64 (E3 d k q)=tq at *
      obtain ⟨fl,hfl⟩:∃ fl,Dv c i p (cm (BitVec.ofNat 64 ti + 1#64)) n=fl:=⟨_,rfl⟩
      have hFl:Fi.toList=if fl=true then [] else [Ask.mk i false r (cm (BitVec.ofNat 64 ti + 1#64)) 0]:=by
       rw [hfl] at hF;subst hF;cases fl <;> rfl
      rw [hFl] at hJ;generalize hLx:(L ++ if fl=true then [] else [Ask.mk i false r (cm (BitVec.ofNat 64 ti + 1#64)) 0])=Lx at hJ;rcases hl2 with hl' | hl' <;> rcases hw2 with ⟨hrb,hw2⟩ | ⟨hrb,hw2⟩
      all_goals
       try rw [hw2] at hw1
       refine eX ?_;simp only [MZ,Kq,Gn,GO,Gm,hl',d0,d1,D8,CB,C3,Cl.d,B4,List.append_nil,B3,LZ,seval];repeat refine sd ?_
       simp only [eD,wr,d5,hrs,wI,LZ,seval];have zz:=@b7;refine By [0,1,2,4] [0,1,4] (hH) ?_;simp only [wI,d0,d1,d6,eD,hRr,hrb,Bn,seval];repeat refine sd ?_
       refine AO (hT) ?_;simp only [Cz,d0,d1,d6,eD,hRr,hrb,wI,Nat.testBit,seval];repeat refine sd ?_
       refine Aj (hw1) ?_;simp only [Bb,hrb,seval];try (refine Aj (hw2) ?_;(simp only [Bb,seval]))
       refine Aj (hT2) ?_;simp only [Bb,d7,d8,e1,hrb,seval];repeat refine sd ?_
       refine Ava hx cm d n oth hn c L i (Ask.mk i false r (cm (BitVec.ofNat 64 ti + 1#64)) 0) p ?_ ?_
       ·refine Avc cm d n oth c L Aa i _ p _ _ hx ?_;dsimp only;rw [hfl,hLx];have hlx:(Lx.length=0)=True ∨ (Lx.length=0)=False:=by
         by_cases h:Lx.length=0
         ·exact .inl (eq_true h)
         ·exact .inr (eq_false h)
        refine eX ?_;rcases hlx with hlx | hlx;all_goals
         simp only [Kq,wI,LZ,seval];refine hJ _ _ _ ?_;unfold Kq Gn GO Gm;refine Ak.fr [0,1,2,3,4,5] [] hx AG Al ?_ ?_
         ·simp only [hlx,B4,LY,seval]
         ·simp only [hlx,D8,CB,C3,Cl.d,Ask.d,B4,List.append_nil,B3,dg,LY,seval]
       ·unfold VJ Gn GO Gm;refine Ak.fr [0,1,2,3,4,5,1014] [] hx AG Al ?_ ?_
        ·simp only [hl',B4,Int.natCast_zero,LY,seval]
        ·simp only [hl',hrb,D8,CB,C3,Cl.d,Ask.d,B4,List.append_nil,B3,dg,LY,seval]
theorem Tk {M:Seat} (ok:OkDp M) (k163:Ar M 163 Ad2=true) (k165:Ar M 165 Ki=true) (k169:Ar M 169 Aj4=true) (d:Nat) (hd:1≤d∧d≤4) (n:Nat) (hn0:0 < n) (hn:n≤64) (c:Nat→Cl) (hP:Pls d n c) (hR:Prs n c) (cm:BitVec 64→Dg) (own:Nat) (ho:own=if Fv cm d (c 0) then 0 else 1)
 (hQ:∀ j,j < n→Fv cm d (c j)=true→¬ Gg (c j).pos % 2=own→N4 (c j).pos + 1 < 2 ^ Gg (c j).pos) (A:List Ask) (hA:A=Cc (CZ cm d c n own) n) :
 Ae M 169 [.ptr 0 [],.sl 3 [] 0 (2 ^ d) 32] [(0,D8 d n),(1,C3 n c),(3,.ar 32 (2 ^ d) fun j=>dg (cm (BitVec.ofNat 64 j + 1#64)))] 4 (Q3 (Gm A.length 4) ([(0,D8 d n),(1,C3 n c),(3,.ar 32 (2 ^ d) fun j=>dg (cm (BitVec.ofNat 64 j + 1#64)))] ++ (if A.length=0 then [] else [(4,.ar 36 A.length fun j=>(A.getD j default).d)])) 5):=by
 have h16:2 ^ d≤2 ^ 4:=Nat.pow_le_pow_right Al hd.2;have hRi:=I5 ok k163 d hd.2 n hn c hP (fun i=>cm (BitVec.ofNat 64 i + 1#64)) hn0;simp only [Aim] at hRi;have d1:((0:Int) < (n:Int))=True:=eq_true Aa;simp only [D8,CB,C3,Cl.d] at hRi;refine Ab k169 rfl fun x hx=>?_;have hLoop:∀ (oth:Nat) (A0:List V) (H0:Hp) (N0:Nat),own + oth=1→Ak M x A0 H0 N0 (Kq d n oth [] 0) (Gn cm d n c) 6→Hs M x (Ap M x [RVr.tmp 4] fun r H' k'=>r=Gm A.length 4∧H'=[(0,D8 d n),(1,C3 n c),(3,.ar 32 (2 ^ d) fun j=>dg (cm (BitVec.ofNat 64 j + 1#64)))] ++ (if A.length=0 then [] else [(4,.ar 36 A.length fun j=>(A.getD j default).d)])∧k'=5) MZ [.blk 0,.code Ahy] A0 H0 N0:=by
  intro oth A0 H0 N0 hoo hw;refine Am (σ:=Nat) (fun i=>i≤n) (fun i=>Kq d n oth (Cc (CZ cm d c n own) i) i) (fun i=>Gn cm d n c ++ GO (Cc (CZ cm d c n own) i)) (fun _=>6) (fun i=>n - i) 0 Aa hw ?_;intro i hi;by_cases hin:i=n
  ·subst hin;rw [← hA];have d0:((i:Int) < (i:Int))=False:=eq_false Aa;have hl2:(A.length=0)=True ∨ (A.length=0)=False:=by
    by_cases h:A.length=0
    ·exact .inl (eq_true h)
    ·exact .inr (eq_false h)
   rcases hl2 with hl' | hl';all_goals
    refine eX ?_;simp only [MZ,Ahy,Kq,Gn,GO,Gm,hl',d0,D8,CB,C3,Cl.d,Ask.d,B4,List.append_nil,B3,LZ,seval];have zz:=@b7;exact AI hx [0,1,2,3,5] ⟨rfl,rfl,rfl⟩
  ·exact Acr hx ok k165 d hd n hn c hP hR cm own oth hoo i Aa (hQ i Aa) _ (GG _ i) fun A1 H1 N1 hw1=>⟨i + 1,by omega,by omega,hw1⟩
 cases hr0:Fv cm d (c 0);all_goals
  rw [hr0] at ho;refine eX ?_;simp only [Aj4,Ar3,D8,CB,C3,Cl.d,LZ,seval];have zz:=@b7;refine By [0,1,2,3] [0,1,3] (hRi) ?_;simp only [Bn,Bt,d1,hr0,seval];repeat refine sd ?_
  first | refine hLoop 1 _ _ _ (by rw [ho];rfl) ?_ | refine hLoop 0 _ _ _ (by rw [ho];rfl) ?_
  unfold Kq Gn;refine Ak.fr [0,1,2,3,52,50] [] hx AG Al ?_ ?_
  ·simp only [Gm,List.length_nil,if_true,LY,seval]
  ·simp only [D8,CB,C3,Cl.d,dg,LY,seval]
end Mv
