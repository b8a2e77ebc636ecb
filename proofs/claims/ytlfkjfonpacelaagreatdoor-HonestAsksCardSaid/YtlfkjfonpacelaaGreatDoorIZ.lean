/- A part. -/
import Derived.Test.YtlfkjfonpacelaaGreatDoorIY
set_option linter.all false
set_option maxRecDepth 20000
set_option maxHeartbeats 4000000
namespace Mv
open Go
def Bo (f:Nat→BitVec 64) (j:Nat):BitVec 8:=X5 (f (j / 8)) (j % 8)
theorem OH {M:Seat} (okA:OkM M) (ok:OkO M) (w:WS) (l:List (Dg × Bool)) (f g:Nat→BitVec 64) (pc xt:BitVec 64) (a b:BitVec 64) (ha:a.toNat + 8≤8192) (hb:b.toNat + 4≤8192) :
 Ae M 217 [.ptr 5 [],.ptr 0 [],.int .i64 34,W a,W b] (AS w .nils l ++ [(5,mach f g pc false xt)]) 6
  (Q3 (.bool true) (AS (w.add (Pr.mk' (Bo fun j=>f (a.toNat + j)))) .nils l ++ [(5,mach (fun j=>if b.toNat≤j∧j < b.toNat + 4 then J9 (fun i=>(Co (Pr.mk' (Bo fun j=>f (a.toNat + j))).at).at (8 * (j - b.toNat) + i)) 8 else f j) g pc false xt)]) 6):=by
 refine Ab ok.k217 rfl fun x hx=>?_;have h1:(decide (a≤8192#64) && decide (8#64≤8192#64 - a))=true:=by
  have:a.toNat≤8192:=Aa;simp only [Lao,decide_eq_true_eq];omega
 have h2:(decide (b≤8192#64) && decide (4#64≤8192#64 - b))=true:=by
  have:b.toNat≤8192:=Aa;simp only [Lao,decide_eq_true_eq];omega
 refine eX ?_;simp only [OB,OU,GW,seval];refine Aj (Bw ok a 8#64) ?_;simp only [h1,LZ,seval];refine Aj (Bw ok b 4#64) ?_;simp only [h2,LZ,seval];have e8:(a + 8#64).toNat=a.toNat + 8:=Aq6;rw [e8,Nat.add_sub_cancel_left];repeat refine sd ?_
 refine A5 ?_;refine eX ?_;simp only [Bn,seval];repeat refine sd ?_
 refine DY (DS okA ok (f (a.toNat + 0))) ?_;simp only [Bn,seval];repeat refine sd ?_
 have w1:IntKind.i64.wrap 1=1:=Al;rw [w1];refine Am (σ:=Nat) (fun i=>1≤i∧i≤8) (fun i=>fr 94 [(0,.ptr 5 []),(1,.ptr 0 []),(2,.int .i64 34),(4,W b),(12,W 4#64),(13,.sl 6 [] 0 (8 * i) 1),(43,.sl 5 [Stp.f 0] a.toNat 8 1),(44,.int .i64 8),(45,.int .i64 i)])
  (fun i=>AS w .nils l ++ [(5,mach f g pc false xt),(6,.ar 1 (8 * i) fun j=>B (Bo (fun j=>f (a.toNat + j)) j))]) (fun _=>7) (fun i=>8 - i) 1 Aa ?_ ?_
 ·refine Ak.fr [0,1,2,3,4,5,518] [] hx AG Al ?_ ?_
  ·simp only [LY,seval]
  ·simp only [JU,Bf,BI,seval];intro i hi;have q1:i / 8=0:=Aa;have q2:i % 8=i:=Aa;simp only [Bo,q1,q2,Nat.add_zero]
 ·rintro i ⟨hi1,hi⟩;refine eX ?_;by_cases h8:i=8
  ·subst h8;simp only [GW,seval];repeat refine sd ?_
   have hP:∀ j,j < 64→(Pr.mk' (Bo fun j=>f (a.toNat + j))).at j=Bo (fun j=>f (a.toNat + j)) j:=fun j hj=>Pr.at_mk' _ _ hj;generalize Pr.mk' (Bo fun j=>f (a.toNat + j))=P at *
   have hA:Ae M 212 [.ptr 0 [],AL P] _ _ _:=NL okA ok.toOkS w P;generalize hw':w.add P=w' at *
   clear hw';generalize Co P.at=D at *
   refine Nt [0,1,2,3,4] [0,1,2,3] (hA) (by constructor <;> (try simp only [Gi,MW,AL,BI,seval]) <;> first | exact q1 | (exact fun j hj=>(hP j hj).symm)) (by simp only [Gi,MW,AL,Cg,LX]) ?_;simp only [Cz,Gi,MW,A3,seval];refine Am (σ:=Nat) (fun i=>i≤4) (fun i=>fr 94 [(0,.ptr 5 []),(4,W b),(16,.sl 7 [] 0 32 1),(77,W 4#64),(78,W (BitVec.ofNat 64 i))])
    (fun i=>AS w' .nils l ++ [(5,mach (fun j=>if b.toNat≤j∧j < b.toNat + i then J9 (fun i=>D.at (8 * (j - b.toNat) + i)) 8 else f j) g pc false xt),(7,dg D)]) (fun _=>8) (fun i=>4 - i) 0 Aa ?_ ?_
   ·refine Ak.fr [0,1,2,3,4,5,6,199] [] hx AG Al ?_ ?_
    ·simp only [LY,seval]
    ·simp only [JU,Bf,BI,seval];exact fun i _=>(if_neg Aa).symm
   ·intro i hi;refine eX ?_;by_cases h4:i=4
    ·subst h4;simp only [GW,seval];have zz:=AY @Bf @Cg;exact AI hx [0,1,2,3,4,5] ⟨rfl,rfl,rfl⟩
    ·have t1:(BitVec.ofNat 64 i).toNat=i:=Sq;have d0:(BitVec.ofNat 64 i < 4#64)=True:=eq_true (by rw [BitVec.lt_def,t1];show i < 4;omega);have t2:(8#64 * BitVec.ofNat 64 i).toNat=8 * i:=Tq;have t3:(b + BitVec.ofNat 64 i).toNat=b.toNat + i:=WM;have t4:BitVec.ofNat 64 i + 1#64=BitVec.ofNat 64 (i + 1):=Wc;simp only [d0,t2,t3,t4,GW,seval];repeat refine sd ?_
     refine opK (DQ ok (32 - 8 * i) Aa (fun j=>D.at (8 * i + j))) (by (try simp only [dg,BI,seval]) <;> first | exact q1 | ((show 8 * i + (32 - 8 * i)≤32;omega))) (by simp only [dg,Cg,LX]) ?_;simp only [t2,t3,t4,Bn,seval];repeat refine sd ?_
     refine ⟨i + 1,by omega,by omega,?_⟩;refine Ak.fr [0,1,2,3,4,5,6,7] [] hx AG Al ?_ ?_
     ·simp only [LY,seval]
     ·simp only [Bf,BI,seval];intro q hq;by_cases e:q=b.toNat + i
      ·subst e;rw [if_pos rfl,if_pos Aa,Nat.add_sub_cancel_left];simp only [W,LY,seval]
      ·rw [if_neg e];by_cases e2:b.toNat≤q∧q < b.toNat + i
       ·rw [if_pos Aa,if_pos e2];simp only [W,LY,seval]
       ·rw [if_neg Aa,if_neg e2];simp only [W,LY,seval]
  ·have d0:((i:Int) < 8)=True:=eq_true Aa;have w0:IntKind.i64.wrap ((i:Int) + 1)=((i + 1:Nat):Int):=AW;have n0:(0:Int)≤(i:Int):=Aa;simp only [d0,w0,GW,seval];repeat refine sd ?_
   have zz:=@Cg;refine GY [6] (DR okA ok (8 * i) Aa (Bo fun j=>f (a.toNat + j)) (f (a.toNat + i))) ?_;simp only [Bn,w0,seval];repeat refine sd ?_
   refine ⟨i + 1,by omega,by omega,by omega,?_⟩;have e88:8 * (i + 1)=8 * i + 8:=Aa;rw [e88];refine Ak.fr [0,1,2,3,4,5,103] [] hx AG Al ?_ ?_
   ·simp only [LY,seval]
   ·simp only [Bf,BI,seval];intro q hq;by_cases e:q < 8 * i
    ·rw [if_pos e]
    ·have e1:q / 8=i:=Aa;have e2:q % 8=q - 8 * i:=Aa;rw [if_neg e,Bo,e1,e2]
variable {M:Seat}
theorem Li (ok:OkV M) (okP:OkP M) (f g:Nat→BitVec 64) (pc xt:BitVec 64) (hpc:¬ 8192#64≤pc) (w:BitVec 64) (hw:f pc.toNat=w) (op:Nat) (h1:1≤op) (h25:op≤25) (hop:Cj w=op) (h2:w >>> 32 &&& 255#64=0#64) :
 ∃ v,Ae M 70 [.ptr 0 [],.ptr 1 []] [(0,mach f g pc false xt)] 2 (Q3 .nili [(0,mach f (JB g (pF w 52) v) (pc + 1#64) false xt)] 2):=by
 obtain ⟨v,hv⟩:=Y7 okP op h1 h25 (g (pF w 48)) (g (pF w 44)) (g (pF w 40));refine ⟨v,Ab ok.k70 rfl fun x hx=>?_⟩;have hp:pc.toNat < 8192:=Ha;have a1:=At w 52;have a2:=At w 48;have a3:=At w 44;have a4:=At w 40;have d1:((op:Int)=0)=False:=eq_false Aa;have d2:((op:Int) < 26)=True:=eq_true Aa;refine eX ?_;simp only [Lcb,hpc,hw,seval];repeat refine sd ?_
 have zz:=@j3;refine Ge (AC ok w Aa h2) ?_;simp only [HQ,hop,d1,d2,seval];repeat refine sd ?_
 refine AO (hv) ?_;simp only [Bb,seval];repeat refine sd ?_
 have zz:=AY @c7 UR;exact AI hx [0,1] ⟨rfl,rfl,rfl⟩
def wi (a n:BitVec 64):Bool:=decide (a≤8192#64) && decide (n≤8192#64 - a)
theorem Mf (ok:OkO M) (f g:Nat→BitVec 64) (pc xt:BitVec 64) (a b:BitVec 64) (h:(wi a 8#64 && wi b 4#64)=false) :
 Ae M 217 [.ptr 0 [],.ptr 1 [],.int .i64 34,W a,W b] [(0,mach f g pc false xt)] 2 (Q3 (.bool false) [(0,mach f g pc true AD)] 2):=by
 refine Ab ok.k217 rfl fun x hx=>?_;cases h1:wi a 8#64 with
 | false =>
   unfold wi at h1;refine eX ?_;simp only [OB,OU,CP,seval];refine Aj (Bw ok a 8#64) ?_;simp only [h1,LZ,seval];have zz:=@c7;refine GY [0] (BQ ok.toOkV f g pc false xt AD) ?_;simp only [CP,seval];have zz:=@c7;exact AI hx [0,1] ⟨rfl,rfl,rfl⟩
 | true =>
   rw [h1,Bool.true_and] at h;unfold wi at h1 h;refine eX ?_;simp only [OB,OU,CP,seval];refine Aj (Bw ok a 8#64) ?_;simp only [h1,LZ,seval];refine Aj (Bw ok b 4#64) ?_;simp only [h,LZ,seval];have zz:=@c7;refine GY [0] (BQ ok.toOkV f g pc false xt AD) ?_;simp only [CP,seval];have zz:=@c7;exact AI hx [0,1] ⟨rfl,rfl,rfl⟩
theorem FV (ok:OkO M) (f g:Nat→BitVec 64) (pc xt:BitVec 64) (hpc:¬ 8192#64≤pc) (w:BitVec 64) (hw:f pc.toNat=w) (hop:Cj w=34) (h2:w >>> 32 &&& 255#64=0#64) (h:(wi (g (pF w 48)) 8#64 && wi (g (pF w 44)) 4#64)=false) :
 Ae M 70 [.ptr 0 [],.ptr 1 []] [(0,mach f g pc false xt)] 2 (Q3 .nili [(0,mach f g pc true AD)] 2):=by
 refine Ab ok.k70 rfl fun x hx=>?_;have hp:pc.toNat < 8192:=Ha;have a1:=At w 52;have a2:=At w 48;have a3:=At w 44;refine eX ?_;simp only [Lcb,hpc,hw,seval];repeat refine sd ?_
 have zz:=@j3;refine Ge (AC ok.toOkV w Aa h2) ?_;simp only [HQ,hop,seval];repeat refine sd ?_
 have zz:=@c7;refine obY [0,1] [0] (Mf ok f g pc xt _ _ h) ?_;simp only [CP,seval];repeat refine sd ?_
 have zz:=@c7;exact AI hx [0,1] ⟨rfl,rfl,rfl⟩
theorem Lw (ok:OkO M) (f g:Nat→BitVec 64) (pc xt:BitVec 64) (a b:BitVec 64) (h:(wi a 4#64 && wi b 8#64)=false) :
 Ae M 217 [.ptr 0 [],.ptr 1 [],.int .i64 35,W a,W b] [(0,mach f g pc false xt)] 2 (Q3 (.bool false) [(0,mach f g pc true AD)] 2):=by
 refine Ab ok.k217 rfl fun x hx=>?_;cases h1:wi a 4#64 with
 | false =>
   unfold wi at h1;refine eX ?_;simp only [OB,OU,CP,seval];refine Aj (Bw ok a 4#64) ?_;simp only [h1,LZ,seval];have zz:=@c7;refine GY [0] (BQ ok.toOkV f g pc false xt AD) ?_;simp only [CP,seval];have zz:=@c7;exact AI hx [0,1] ⟨rfl,rfl,rfl⟩
 | true =>
   rw [h1,Bool.true_and] at h;unfold wi at h1 h;refine eX ?_;simp only [OB,OU,CP,seval];refine Aj (Bw ok a 4#64) ?_;simp only [h1,LZ,seval];refine Aj (Bw ok b 8#64) ?_;simp only [h,LZ,seval];have zz:=@c7;refine GY [0] (BQ ok.toOkV f g pc false xt AD) ?_;simp only [CP,seval];have zz:=@c7;exact AI hx [0,1] ⟨rfl,rfl,rfl⟩
theorem FT (ok:OkO M) (f g:Nat→BitVec 64) (pc xt:BitVec 64) (hpc:¬ 8192#64≤pc) (w:BitVec 64) (hw:f pc.toNat=w) (hop:Cj w=35) (h2:w >>> 32 &&& 255#64=0#64) (h:(wi (g (pF w 48)) 4#64 && wi (g (pF w 44)) 8#64)=false) :
 Ae M 70 [.ptr 0 [],.ptr 1 []] [(0,mach f g pc false xt)] 2 (Q3 .nili [(0,mach f g pc true AD)] 2):=by
 refine Ab ok.k70 rfl fun x hx=>?_;have hp:pc.toNat < 8192:=Ha;have a1:=At w 52;have a2:=At w 48;have a3:=At w 44;refine eX ?_;simp only [Lcb,hpc,hw,seval];repeat refine sd ?_
 have zz:=@j3;refine Ge (AC ok.toOkV w Aa h2) ?_;simp only [HQ,hop,seval];repeat refine sd ?_
 have zz:=@c7;refine obY [0,1] [0] (Lw ok f g pc xt _ _ h) ?_;simp only [CP,seval];repeat refine sd ?_
 have zz:=@c7;exact AI hx [0,1] ⟨rfl,rfl,rfl⟩
def Rb (m:Mc):Prop:=m.hl=false∧¬ 8192#64≤m.pc∧m.f m.pc.toNat >>> 32 &&& 255#64=0#64 ∧
 ((Cj (m.f m.pc.toNat)=34∧(wi (m.g (pF (m.f m.pc.toNat) 48)) 8#64 && wi (m.g (pF (m.f m.pc.toNat) 44)) 4#64)=true) ∨ (Cj (m.f m.pc.toNat)=35∧(wi (m.g (pF (m.f m.pc.toNat) 48)) 4#64 && wi (m.g (pF (m.f m.pc.toNat) 44)) 8#64)=true))
theorem Ai5 (op:Nat) (f g:Nat→BitVec 64) (pc xt:BitVec 64) (d a:Nat) (to:BitVec 64):∃ m:Mc,Si op f g pc xt d a to=m.v:=by
 unfold Si
 repeat' split
 all_goals exact ⟨⟨_,_,_,_,_⟩,rfl⟩
theorem Abv (ok:OkO M) (okP:OkP M) (m:Mc) (h:¬ Rb m):∃ m',Jy M m m':=by
 obtain ⟨f,g,pc,hl,xt⟩:=m;unfold Jy;cases hl with
 | true=>exact ⟨⟨f,g,pc,true,xt⟩,Eo ok.toOkV f g pc xt⟩
 | false =>
   show ∃ m':Mc,Ae M 70 [.ptr 0 [],.ptr 1 []] [(0,mach f g pc false xt)] 2 (Q3 .nili [(0,m'.v)] 2);by_cases hpc:8192#64≤pc
   ·exact ⟨⟨f,g,pc,true,AD⟩,IJ ok.toOkV f g pc xt hpc⟩
   ·by_cases hn:Cj (f pc.toNat)≤35∧f pc.toNat >>> 32 &&& 255#64=0#64
    ·obtain ⟨h35,h2⟩:=hn;have hj:∀ op,(Ae M 70 [.ptr 0 [],.ptr 1 []] [(0,mach f g pc false xt)] 2 (Q3 .nili [(0,Si op f g pc xt (pF (f pc.toNat) 52) (pF (f pc.toNat) 48) (BitVec.ofInt 64 (pN (f pc.toNat))))] 2)) →
      ∃ m':Mc,Ae M 70 [.ptr 0 [],.ptr 1 []] [(0,mach f g pc false xt)] 2 (Q3 .nili [(0,m'.v)] 2):=fun op hr=>by
      obtain ⟨m',hm⟩:=Ai5 op f g pc xt (pF (f pc.toNat) 52) (pF (f pc.toNat) 48) (BitVec.ofInt 64 (pN (f pc.toNat)));rw [hm] at hr;exact ⟨m',hr⟩
     by_cases q0:Cj (f pc.toNat)=0
     ·exact ⟨⟨f,g,pc,true,_⟩,Fg ok.toOkV f g pc xt hpc _ rfl q0 h2⟩
     by_cases q1:Cj (f pc.toNat)≤25
     ·obtain ⟨v,hv⟩:=Li ok.toOkV okP f g pc xt hpc _ rfl (Cj (f pc.toNat)) Aa q1 rfl h2;exact ⟨⟨f,_,_,false,xt⟩,hv⟩
     by_cases q2:Cj (f pc.toNat)=26
     ·exact ⟨⟨f,_,_,false,xt⟩,JW ok.toOkV f g pc xt hpc _ rfl q2 h2⟩
     by_cases q3:Cj (f pc.toNat)=27
     ·by_cases hwh:8192#64≤g (pF (f pc.toNat) 48) + BitVec.ofInt 64 (pN (f pc.toNat))
      ·exact ⟨⟨f,g,pc,true,AD⟩,E8 ok.toOkV f g pc xt hpc _ rfl q3 h2 _ rfl hwh⟩
      ·exact ⟨⟨f,_,_,false,xt⟩,Hg ok.toOkV f g pc xt hpc _ rfl q3 h2 _ rfl hwh⟩
     by_cases q4:Cj (f pc.toNat)=28
     ·by_cases hwh:8192#64≤g (pF (f pc.toNat) 48) + BitVec.ofInt 64 (pN (f pc.toNat))
      ·exact ⟨⟨f,g,pc,true,AD⟩,Ew ok.toOkV f g pc xt hpc _ rfl q4 h2 _ rfl hwh⟩
      ·exact ⟨⟨_,g,_,false,xt⟩,Gw ok.toOkV f g pc xt hpc _ rfl q4 h2 _ rfl hwh⟩
     by_cases q5:Cj (f pc.toNat)=29
     ·exact hj 29 (CE ok.toOkV 29 Al f g pc xt hpc _ rfl q5 h2)
     by_cases q6:Cj (f pc.toNat)=30
     ·exact hj 30 (CE ok.toOkV 30 Al f g pc xt hpc _ rfl q6 h2)
     by_cases q7:Cj (f pc.toNat)=31
     ·exact hj 31 (CE ok.toOkV 31 Al f g pc xt hpc _ rfl q7 h2)
     by_cases q8:Cj (f pc.toNat)=32
     ·exact hj 32 (CE ok.toOkV 32 Al f g pc xt hpc _ rfl q8 h2)
     by_cases q9:Cj (f pc.toNat)=33
     ·exact hj 33 (CE ok.toOkV 33 Al f g pc xt hpc _ rfl q9 h2)
     by_cases q10:Cj (f pc.toNat)=34
     ·exact ⟨⟨f,g,pc,true,AD⟩,FV ok f g pc xt hpc _ rfl q10 h2 (by
       cases hb:(wi (g (pF (f pc.toNat) 48)) 8#64 && wi (g (pF (f pc.toNat) 44)) 4#64) with
       | false=>rfl
       | true=>exact absurd ⟨rfl,hpc,h2,.inl ⟨q10,hb⟩⟩ h)⟩
     have q11:Cj (f pc.toNat)=35:=Aa
     exact ⟨⟨f,g,pc,true,AD⟩,FT ok f g pc xt hpc _ rfl q11 h2 (by
      cases hb:(wi (g (pF (f pc.toNat) 48)) 4#64 && wi (g (pF (f pc.toNat) 44)) 8#64) with
      | false=>rfl
      | true=>exact absurd ⟨rfl,hpc,h2,.inr ⟨q11,hb⟩⟩ h)⟩
    ·exact ⟨⟨f,g,pc,true,AD⟩,IK ok.toOkV f g pc xt hpc _ rfl hn⟩
theorem Hu {M:Seat} (okA:OkM M) (ok:OkO M) (s:WS) (l:List (Dg × Bool)) (f g:Nat→BitVec 64) (pc xt:BitVec 64) (hpc:¬ 8192#64≤pc) (w:BitVec 64) (hw:f pc.toNat=w) (hop:Cj w=34) (h2:w >>> 32 &&& 255#64=0#64)
 (ha:(g (pF w 48)).toNat + 8≤8192) (hb:(g (pF w 44)).toNat + 4≤8192) :
 Ae M 70 [.ptr 5 [],.ptr 0 []] (AS s .nils l ++ [(5,mach f g pc false xt)]) 6
  (Q3 .nili (AS (s.add (Pr.mk' (Bo fun j=>f ((g (pF w 48)).toNat + j)))) .nils l ++ [(5,mach (fun j=>if (g (pF w 44)).toNat≤j∧j < (g (pF w 44)).toNat + 4 then J9 (fun i=>(Co (Pr.mk' (Bo fun j=>f ((g (pF w 48)).toNat + j))).at).at (8 * (j - (g (pF w 44)).toNat) + i)) 8 else f j) g (pc + 1#64) false xt)]) 6):=by
 refine Ab ok.k70 rfl fun x hx=>?_;have hp:pc.toNat < 8192:=Ha;have a1:=At w 52;have a2:=At w 48;have a3:=At w 44;have hO:=OH okA ok s l f g pc xt _ _ ha hb;generalize s.add (Pr.mk' (Bo fun j=>f ((g (pF w 48)).toNat + j)))=s' at *
 generalize Co (Pr.mk' (Bo fun j=>f ((g (pF w 48)).toNat + j))).at=D at *
 generalize (fun j=>if (g (pF w 44)).toNat≤j∧j < (g (pF w 44)).toNat + 4 then J9 (fun i=>D.at (8 * (j - (g (pF w 44)).toNat) + i)) 8 else f j)=F at *
 refine eX ?_;simp only [Se,Sb,JU,hpc,hw,LZ,seval];repeat refine sd ?_
 have zz:=@j3;refine Ge (AC ok.toOkV w Aa h2) ?_;simp only [HQ,hop,seval];repeat refine sd ?_
 have zz:=D0 JU @Bf @Fu @Cg;refine U2 [0,1,2,3,4,5] (hO) ?_;simp only [GW,A3,seval];repeat refine sd ?_
 have zz:=AY @Bf @Cg;exact AI hx [0,1,2,3,4,5] ⟨rfl,rfl,rfl⟩
theorem MG {M:Seat} (n:Nat) (q:Nat→Dg) (okA:OkM M) (ok:OkO M) (w:WS) (l:List (Dg × Bool)) (f g:Nat→BitVec 64) (pc xt:BitVec 64) (a b:BitVec 64) (ha:a.toNat + 8≤8192) (hb:b.toNat + 4≤8192) :
 Ae M 217 [.ptr 5 [],.ptr 0 [],.int .i64 34,W a,W b] (AS w (.sl 6 [] 0 n 32) l ++ [(5,mach f g pc false xt),(6,.ar 32 n fun i=>dg (q i))]) 7
  (Q3 (.bool true) (AS (w.add (Pr.mk' (Bo fun j=>f (a.toNat + j)))) (.sl 6 [] 0 n 32) l ++ [(5,mach (fun j=>if b.toNat≤j∧j < b.toNat + 4 then J9 (fun i=>(Co (Pr.mk' (Bo fun j=>f (a.toNat + j))).at).at (8 * (j - b.toNat) + i)) 8 else f j) g pc false xt),(6,.ar 32 n fun i=>dg (q i))]) 7):=by
 refine Ab ok.k217 rfl fun x hx=>?_;have h1:(decide (a≤8192#64) && decide (8#64≤8192#64 - a))=true:=by
  have:a.toNat≤8192:=Aa;simp only [Lao,decide_eq_true_eq];omega
 have h2:(decide (b≤8192#64) && decide (4#64≤8192#64 - b))=true:=by
  have:b.toNat≤8192:=Aa;simp only [Lao,decide_eq_true_eq];omega
 refine eX ?_;simp only [OB,OU,GW,seval];refine Aj (Bw ok a 8#64) ?_;simp only [h1,LZ,seval];refine Aj (Bw ok b 4#64) ?_;simp only [h2,LZ,seval];have e8:(a + 8#64).toNat=a.toNat + 8:=Aq6;rw [e8,Nat.add_sub_cancel_left];repeat refine sd ?_
 refine A5 ?_;refine eX ?_;simp only [Bn,seval];repeat refine sd ?_
 refine DY (DS okA ok (f (a.toNat + 0))) ?_;simp only [Bn,seval];repeat refine sd ?_
 have w1:IntKind.i64.wrap 1=1:=Al;rw [w1];refine Am (σ:=Nat) (fun i=>1≤i∧i≤8) (fun i=>fr 94 [(0,.ptr 5 []),(1,.ptr 0 []),(2,.int .i64 34),(4,W b),(12,W 4#64),(13,.sl 7 [] 0 (8 * i) 1),(43,.sl 5 [Stp.f 0] a.toNat 8 1),(44,.int .i64 8),(45,.int .i64 i)])
  (fun i=>AS w (.sl 6 [] 0 n 32) l ++ [(5,mach f g pc false xt),(6,.ar 32 n fun i=>dg (q i)),(7,.ar 1 (8 * i) fun j=>B (Bo (fun j=>f (a.toNat + j)) j))]) (fun _=>8) (fun i=>8 - i) 1 Aa ?_ ?_
 ·refine Ak.fr [0,1,2,3,4,5,6,519] [] hx AG Al ?_ ?_
  ·simp only [LY,seval]
  ·simp only [JU,Fh,seval];intro i hi;have q1:i / 8=0:=Aa;have q2:i % 8=i:=Aa;simp only [Bo,q1,q2,Nat.add_zero]
 ·rintro i ⟨hi1,hi⟩;refine eX ?_;by_cases h8:i=8
  ·subst h8;simp only [GW,seval];repeat refine sd ?_
   have hP:∀ j,j < 64→(Pr.mk' (Bo fun j=>f (a.toNat + j))).at j=Bo (fun j=>f (a.toNat + j)) j:=fun j hj=>Pr.at_mk' _ _ hj;generalize Pr.mk' (Bo fun j=>f (a.toNat + j))=P at *
   have hA:Ae M 212 [.ptr 0 [],AL P] _ _ _:=Xy okA ok.toOkS w P n;generalize hw':w.add P=w' at *
   clear hw';generalize Co P.at=D at *
   refine Nt [0,1,2,3,4,6] [0,1,2,3] (hA) (by constructor <;> (try simp only [Gi,MW,AL,BI,seval]) <;> first | exact q1 | (exact fun j hj=>(hP j hj).symm)) (by simp only [Gi,MW,AL,Cg,LX]) ?_;simp only [Cz,Gi,MW,A3,seval];refine Am (σ:=Nat) (fun i=>i≤4) (fun i=>fr 94 [(0,.ptr 5 []),(4,W b),(16,.sl 8 [] 0 32 1),(77,W 4#64),(78,W (BitVec.ofNat 64 i))])
    (fun i=>AS w' (.sl 6 [] 0 n 32) l ++ [(5,mach (fun j=>if b.toNat≤j∧j < b.toNat + i then J9 (fun i=>D.at (8 * (j - b.toNat) + i)) 8 else f j) g pc false xt),(6,.ar 32 n fun i=>dg (q i)),(8,dg D)]) (fun _=>9) (fun i=>4 - i) 0 Aa ?_ ?_
   ·refine Ak.fr [0,1,2,3,4,5,6,7,200] [] hx AG Al ?_ ?_
    ·simp only [LY,seval]
    ·simp only [JU,Fh,seval];exact fun i _=>(if_neg Aa).symm
   ·intro i hi;refine eX ?_;by_cases h4:i=4
    ·subst h4;simp only [GW,seval];have zz:=Laa;exact AI hx [0,1,2,3,4,5,6] ⟨rfl,rfl,rfl⟩
    ·have t1:(BitVec.ofNat 64 i).toNat=i:=Sq;have d0:(BitVec.ofNat 64 i < 4#64)=True:=eq_true (by rw [BitVec.lt_def,t1];show i < 4;omega);have t2:(8#64 * BitVec.ofNat 64 i).toNat=8 * i:=Tq;have t3:(b + BitVec.ofNat 64 i).toNat=b.toNat + i:=WM;have t4:BitVec.ofNat 64 i + 1#64=BitVec.ofNat 64 (i + 1):=Wc;simp only [d0,t2,t3,t4,GW,seval];repeat refine sd ?_
     refine opK (DQ ok (32 - 8 * i) Aa (fun j=>D.at (8 * i + j))) (by (try simp only [dg,BI,seval]) <;> first | exact q1 | ((show 8 * i + (32 - 8 * i)≤32;omega))) (by simp only [dg,Cg,LX]) ?_;simp only [t2,t3,t4,Bn,seval];repeat refine sd ?_
     refine ⟨i + 1,by omega,by omega,?_⟩;refine Ak.fr [0,1,2,3,4,5,6,7,8] [] hx AG Al ?_ ?_
     ·simp only [LY,seval]
     ·simp only [Fh,seval];intro q hq;by_cases e:q=b.toNat + i
      ·subst e;rw [if_pos rfl,if_pos Aa,Nat.add_sub_cancel_left];simp only [W,LY,seval]
      ·rw [if_neg e];by_cases e2:b.toNat≤q∧q < b.toNat + i
       ·rw [if_pos Aa,if_pos e2];simp only [W,LY,seval]
       ·rw [if_neg Aa,if_neg e2];simp only [W,LY,seval]
  ·have d0:((i:Int) < 8)=True:=eq_true Aa;have w0:IntKind.i64.wrap ((i:Int) + 1)=((i + 1:Nat):Int):=AW;have n0:(0:Int)≤(i:Int):=Aa;simp only [d0,w0,GW,seval];repeat refine sd ?_
   have zz:=@Cg;refine GY [7] (DR okA ok (8 * i) Aa (Bo fun j=>f (a.toNat + j)) (f (a.toNat + i))) ?_;simp only [Bn,w0,seval];repeat refine sd ?_
   refine ⟨i + 1,by omega,by omega,by omega,?_⟩;have e88:8 * (i + 1)=8 * i + 8:=Aa;rw [e88];refine Ak.fr [0,1,2,3,4,5,6,104] [] hx AG Al ?_ ?_
   ·simp only [LY,seval]
   ·simp only [Fh,seval];intro q hq;by_cases e:q < 8 * i
    ·rw [if_pos e]
    ·have e1:q / 8=i:=Aa;have e2:q % 8=q - 8 * i:=Aa;rw [if_neg e,Bo,e1,e2]
theorem Gz {M:Seat} (n:Nat) (q:Nat→Dg) (okA:OkM M) (ok:OkO M) (s:WS) (l:List (Dg × Bool)) (f g:Nat→BitVec 64) (pc xt:BitVec 64) (hpc:¬ 8192#64≤pc) (w:BitVec 64) (hw:f pc.toNat=w) (hop:Cj w=34) (h2:w >>> 32 &&& 255#64=0#64)
 (ha:(g (pF w 48)).toNat + 8≤8192) (hb:(g (pF w 44)).toNat + 4≤8192) :
 Ae M 70 [.ptr 5 [],.ptr 0 []] (AS s (.sl 6 [] 0 n 32) l ++ [(5,mach f g pc false xt),(6,.ar 32 n fun i=>dg (q i))]) 7
  (Q3 .nili (AS (s.add (Pr.mk' (Bo fun j=>f ((g (pF w 48)).toNat + j)))) (.sl 6 [] 0 n 32) l ++ [(5,mach (fun j=>if (g (pF w 44)).toNat≤j∧j < (g (pF w 44)).toNat + 4 then J9 (fun i=>(Co (Pr.mk' (Bo fun j=>f ((g (pF w 48)).toNat + j))).at).at (8 * (j - (g (pF w 44)).toNat) + i)) 8 else f j) g (pc + 1#64) false xt),(6,.ar 32 n fun i=>dg (q i))]) 7):=by
 refine Ab ok.k70 rfl fun x hx=>?_;have hp:pc.toNat < 8192:=Ha;have a1:=At w 52;have a2:=At w 48;have a3:=At w 44;have hO:=MG n q okA ok s l f g pc xt _ _ ha hb;generalize s.add (Pr.mk' (Bo fun j=>f ((g (pF w 48)).toNat + j)))=s' at *
 generalize Co (Pr.mk' (Bo fun j=>f ((g (pF w 48)).toNat + j))).at=D at *
 generalize (fun j=>if (g (pF w 44)).toNat≤j∧j < (g (pF w 44)).toNat + 4 then J9 (fun i=>D.at (8 * (j - (g (pF w 44)).toNat) + i)) 8 else f j)=F at *
 refine eX ?_;simp only [Se,Sb,JU,hpc,hw,LZ,seval];repeat refine sd ?_
 have zz:=@j3;refine Ge (AC ok.toOkV w Aa h2) ?_;simp only [HQ,hop,seval];repeat refine sd ?_
 have zz:=AY JU G9;refine U2 [0,1,2,3,4,5,6] (hO) ?_;simp only [GW,A3,seval];repeat refine sd ?_
 have zz:=Laa;exact AI hx [0,1,2,3,4,5,6] ⟨rfl,rfl,rfl⟩
variable {M:Seat}
def DU:Option Pr→V
 | some p=>Ai (AL p) .nili
 | none=>Ai (AL Pr.zero) (.ifc 74 (.int .i64 14))
theorem IN (ok:OkO M) (w:WS) (l:List (Dg × Bool)) (h:Dg) (o:Option Pr) (ho:En h w.pres=o) (hn:En h l=none ∨ En h l=some false) :
 Ae M 328 [.ptr 0 [],dg h] (AS w .nils l) 5 (Q3 (DU o) (AS w (.sl 5 [] 0 1 32) (Dx h true l) ++ [(5,.ar 32 1 fun _=>dg h)]) 6):=by
 have hsv:∀ l:List (Dg × Bool),BG V.bool false l=Cs l:=fun _=>rfl;refine Ab ok.k328 rfl fun x hx=>?_;cases o <;> rcases hn with hn | hn;all_goals refine eX ?_;simp only [Xu,Xa,AS,MW,Cs,ho,hn,Bn,seval]
 all_goals refine Ap.mk hx [0,1,2,3,4,773] [] (DU _) (AS w (.sl 5 [] 0 1 32) (Dx h true l) ++ [(5,.ar 32 1 fun _=>dg h)]) 6 Al (by simp only [Vk,Cz,Yp,seval]) (by simp only [Vk,DU,Cz,Yp,seval];simp only [Lc3,BI,seval];try exact fun _ _=>rfl) ?_ ⟨rfl,rfl,rfl⟩
 all_goals simp only [Ka,hsv,Bf,BI,seval]
 all_goals intro i hi
 all_goals obtain rfl:i=0:=Aa
 all_goals rw [if_pos rfl]
 all_goals simp only [dg,LY,seval]
theorem HW (ok:OkO M) (w:WS) (n:Nat) (hn40:n < 1099511627776) (q:Nat→Dg) (l:List (Dg × Bool)) (h:Dg) (o:Option Pr) (ho:En h w.pres=o) (hn:En h l=none ∨ En h l=some false) :
 Ae M 328 [.ptr 0 [],dg h] (AS w (.sl 5 [] 0 n 32) l ++ [(5,.ar 32 n fun i=>dg (q i))]) 6 (Q3 (DU o) (AS w (.sl 6 [] 0 (n + 1) 32) (Dx h true l) ++ [(6,.ar 32 (n + 1) fun i=>dg (if i < n then q i else h))]) 7):=by
 have hsv:∀ l:List (Dg × Bool),BG V.bool false l=Cs l:=fun _=>rfl;refine Ab ok.k328 rfl fun x hx=>?_;cases o <;> rcases hn with hn | hn;all_goals refine eX ?_;simp only [Xu,Xa,Ka,Cs,ho,hn,Bn,seval]
 all_goals repeat refine sd ?_
 all_goals refine Ap.mk hx [0,1,2,3,4,5,774] [] (DU _) (AS w (.sl 6 [] 0 (n + 1) 32) (Dx h true l) ++ [(6,.ar 32 (n + 1) fun i=>dg (if i < n then q i else h))]) 7 Al (by simp only [Vk,Cz,Yp,seval]) (by simp only [Vk,DU,Cz,Yp,seval];simp only [Lc3,BI,seval];try exact fun _ _=>rfl) ?_ ⟨rfl,rfl,rfl⟩
 all_goals simp only [Ka,hsv,Bf,BI,seval]
 all_goals intro i hi
 all_goals by_cases hin:i < n
 all_goals try (rw [if_pos hin,if_pos hin];simp only [dg,LY,seval];done)
 all_goals (rw [if_neg hin,if_neg hin,if_pos Aa];simp only [dg,LY,seval])
theorem IG (ok:OkO M) (w:WS)  (l:List (Dg × Bool)) (h:Dg) (o:Option Pr) (ho:En h w.pres=o) (hn:En h l=some true) :
 Ae M 328 [.ptr 0 [],dg h] (AS w .nils l) 5 (Q3 (DU o) (AS w .nils l) 5):=by
 have hsv:∀ l:List (Dg × Bool),BG V.bool false l=Cs l:=fun _=>rfl;refine Ab ok.k328 rfl fun x hx=>?_;cases o;all_goals refine eX ?_;simp only [Xu,Xa,Ka,Cs,ho,hn,Bn,seval]
 all_goals refine Ap.mk hx [0,1,2,3,4] [] (DU _) (AS w .nils l) 5 Al (by simp only [Vk,Cz,Yp,seval]) (by simp only [Vk,DU,Cz,Yp,seval];simp only [Lc3,BI,seval];try exact fun _ _=>rfl) ?_ ⟨rfl,rfl,rfl⟩
 all_goals simp only [Ka,hsv,Fh,seval]
theorem Is (ok:OkO M) (w:WS) (n:Nat) (q:Nat→Dg) (l:List (Dg × Bool)) (h:Dg) (o:Option Pr) (ho:En h w.pres=o) (hn:En h l=some true) :
 Ae M 328 [.ptr 0 [],dg h] (AS w (.sl 5 [] 0 n 32) l ++ [(5,.ar 32 n fun i=>dg (q i))]) 6 (Q3 (DU o) (AS w (.sl 5 [] 0 n 32) l ++ [(5,.ar 32 n fun i=>dg (q i))]) 6):=by
 have hsv:∀ l:List (Dg × Bool),BG V.bool false l=Cs l:=fun _=>rfl;refine Ab ok.k328 rfl fun x hx=>?_;cases o;all_goals refine eX ?_;simp only [Xu,Xa,Ka,Cs,ho,hn,Bn,seval]
 all_goals refine Ap.mk hx [0,1,2,3,4,5] [] (DU _) (AS w (.sl 5 [] 0 n 32) l ++ [(5,.ar 32 n fun i=>dg (q i))]) 6 Al (by simp only [Vk,Cz,Yp,seval]) (by simp only [Vk,DU,Cz,Yp,seval];simp only [Lc3,BI,seval];try exact fun _ _=>rfl) ?_ ⟨rfl,rfl,rfl⟩
 all_goals simp only [Ka,hsv,Fh,seval]
end Mv
