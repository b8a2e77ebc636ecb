/- A part. -/
import Derived.Test.YtlfkjfonpacelaaGreatDoorIZ
set_option linter.all false
set_option maxRecDepth 20000
set_option maxHeartbeats 4000000
namespace Mv
open Go
abbrev EQ:BitVec 64:=18446744073709551615#64
def pM (f g:Nat→BitVec 64) (pc xt b:BitVec 64):Option Pr→V
 | some p=>mach (fun j=>if b.toNat≤j∧j < b.toNat + 8 then J9 (fun i=>p.at (8 * (j - b.toNat) + i)) 8 else f j) g pc false xt
 | none=>mach f g pc true EQ
def pSN (w:WS) (l:List (Dg × Bool)) (D:Dg):Bool→Hp
 | true=>AS w .nils l
 | false=>AS w (.sl 6 [] 0 1 32) (Dx D true l)
def pAN (D:Dg):Bool→Hp
 | true=>[]
 | false=>[(6,.ar 32 1 fun _=>dg D)]
def pSS (w:WS) (n:Nat) (l:List (Dg × Bool)) (D:Dg):Bool→Hp
 | true=>AS w (.sl 6 [] 0 n 32) l
 | false=>AS w (.sl 7 [] 0 (n + 1) 32) (Dx D true l)
def pAS (n:Nat) (q:Nat→Dg) (D:Dg):Bool→Hp
 | true=>[(6,.ar 32 n fun i=>dg (q i))]
 | false=>[(7,.ar 32 (n + 1) fun i=>dg (if i < n then q i else D))]
def Lb8:=(Qe @pAN.eq_1 @pAN.eq_2 @pAS.eq_1 @pAS.eq_2 @pSN.eq_1 @pSN.eq_2 @pSS.eq_1 @pSS.eq_2)
def Sc:=(Cv @Laa @JU @Lb8)
def was (l:List (Dg × Bool)) (D:Dg) (b:Bool):Prop:=(b=true∧En D l=some true) ∨ (b=false∧(En D l=none ∨ En D l=some false))
theorem Nf {M:Seat} (okA:OkM M) (ok:OkO M) (w:WS) (l:List (Dg × Bool)) (f g:Nat→BitVec 64) (pc xt:BitVec 64) (a b:BitVec 64) (ha:a.toNat + 4≤8192) (hb:b.toNat + 8≤8192) (o:Option Pr) (sn:Bool) (hp:En (Dg.mk' (Bo fun j=>f (a.toNat + j))) w.pres=o) (hs:was l (Dg.mk' (Bo fun j=>f (a.toNat + j))) sn) :
 Ae M 217 [.ptr 5 [],.ptr 0 [],.int .i64 35,W a,W b] (AS w .nils l ++ [(5,mach f g pc false xt)]) 6
  (Q3 (.bool o.isSome) (pSN w l (Dg.mk' (Bo fun j=>f (a.toNat + j))) sn ++ (5,pM f g pc xt b o) :: pAN (Dg.mk' (Bo fun j=>f (a.toNat + j))) sn) (if sn then 6 else 7)):=by
 refine Ab ok.k217 rfl fun x hx=>?_;have h1:(decide (a≤8192#64) && decide (4#64≤8192#64 - a))=true:=by
  have:a.toNat≤8192:=Aa;simp only [Lao,decide_eq_true_eq];omega
 have h2:(decide (b≤8192#64) && decide (8#64≤8192#64 - b))=true:=by
  have:b.toNat≤8192:=Aa;simp only [Lao,decide_eq_true_eq];omega
 refine eX ?_;simp only [OB,OU,GW,seval];refine Aj (Bw ok a 4#64) ?_;simp only [h1,LZ,seval];refine Aj (Bw ok b 8#64) ?_;simp only [h2,LZ,seval];have e8:(a + 4#64).toNat=a.toNat + 4:=Aqu;rw [e8,Nat.add_sub_cancel_left];repeat refine sd ?_
 refine A5 ?_;refine eX ?_;simp only [Bn,seval];repeat refine sd ?_
 refine DY (DS okA ok (f (a.toNat + 0))) ?_;simp only [Bn,seval];repeat refine sd ?_
 have w1:IntKind.i64.wrap 1=1:=Al;rw [w1];refine Am (σ:=Nat) (fun i=>1≤i∧i≤4) (fun i=>fr 94 [(0,.ptr 5 []),(1,.ptr 0 []),(2,.int .i64 35),(4,W b),(12,W 8#64),(13,.sl 6 [] 0 (8 * i) 1),(43,.sl 5 [Stp.f 0] a.toNat 4 1),(44,.int .i64 4),(45,.int .i64 i)])
  (fun i=>AS w .nils l ++ [(5,mach f g pc false xt),(6,.ar 1 (8 * i) fun j=>B (Bo (fun j=>f (a.toNat + j)) j))]) (fun _=>7) (fun i=>4 - i) 1 Aa ?_ ?_
 ·refine Ak.fr [0,1,2,3,4,5,550] [] hx AG Al ?_ ?_
  ·simp only [LY,seval]
  ·simp only [JU,Fh,seval];intro i hi;have q1:i / 8=0:=Aa;have q2:i % 8=i:=Aa;simp only [Bo,q1,q2,Nat.add_zero]
 ·rintro i ⟨hi1,hi⟩;refine eX ?_;by_cases h8:i=4
  ·subst h8;simp only [GW,seval];repeat refine sd ?_
   have hP:∀ j,j < 32→(Dg.mk' (Bo fun j=>f (a.toNat + j))).at j=Bo (fun j=>f (a.toNat + j)) j:=fun j hj=>Dg.at_mk' _ _ hj;generalize Dg.mk' (Bo fun j=>f (a.toNat + j))=D at *
   rcases hs with ⟨rfl,hn⟩ | ⟨rfl,hn⟩
   ·cases o with
    | none =>
      have hG:Ae M 328 [.ptr 0 [],dg D] _ _ _:=IG ok w l D _ hp hn;simp only [DU,Ai] at hG;refine Nt [0,1,2,3,4] [0,1,2,3,4] (hG) (by constructor <;> (try simp only [Ka,G9,LY,seval]) <;> first | exact q1 | (exact fun j hj=>(hP j hj).symm)) (by simp only [Ka,G9,LX]) ?_;simp only [Lbh,Lc3,seval];have zz:=@c7;refine GY [5] (BQ ok.toOkV f g pc false xt EQ) ?_;simp only [mach,Bn,seval];have zz:=D0 Sc @pM.eq_1 @pM.eq_2 @l6;exact AI hx [0,1,2,3,4,5] ⟨rfl,rfl,rfl⟩
    | some p =>
      have hG:Ae M 328 [.ptr 0 [],dg D] _ _ _:=IG ok w l D _ hp hn;simp only [DU,Ai] at hG;refine Nt [0,1,2,3,4] [0,1,2,3,4] (hG) (by constructor <;> (try simp only [Ka,G9,LY,seval]) <;> first | exact q1 | (exact fun j hj=>(hP j hj).symm)) (by simp only [Ka,G9,LX]) ?_;simp only [Lbh,seval];refine Am (σ:=Nat) (fun i=>i≤8) (fun i=>fr 94 [(0,.ptr 5 []),(4,W b),(16,.sl 7 [] 0 64 1),(77,W 8#64),(78,W (BitVec.ofNat 64 i))])
       (fun i=>AS w .nils l ++ [(5,mach (fun j=>if b.toNat≤j∧j < b.toNat + i then J9 (fun i=>p.at (8 * (j - b.toNat) + i)) 8 else f j) g pc false xt),(7,AL p)]) (fun _=>8) (fun i=>8 - i) 0 Aa ?_ ?_
      ·refine Ak.fr [0,1,2,3,4,5,6,199] [] hx AG Al ?_ ?_
       ·simp only [LY,seval]
       ·simp only [JU,Fh,seval];exact fun i _=>(if_neg Aa).symm
      ·intro i hi;refine eX ?_;by_cases h4:i=8
       ·subst h4;simp only [GW,seval];have zz:=Cv Sc @pM.eq_1 @pM.eq_2;exact AI hx [0,1,2,3,4,5] ⟨rfl,rfl,rfl⟩
       ·have t1:(BitVec.ofNat 64 i).toNat=i:=Sq;have d0:(BitVec.ofNat 64 i < 8#64)=True:=eq_true Agn;have t2:(8#64 * BitVec.ofNat 64 i).toNat=8 * i:=Tq;have t3:(b + BitVec.ofNat 64 i).toNat=b.toNat + i:=WM;have t4:BitVec.ofNat 64 i + 1#64=BitVec.ofNat 64 (i + 1):=Wc;simp only [d0,t2,t3,t4,GW,seval];repeat refine sd ?_
        refine opK (DQ ok (64 - 8 * i) Aa (fun j=>p.at (8 * i + j))) (by (try simp only [AL,BI,seval]) <;> first | exact q1 | ((show 8 * i + (64 - 8 * i)≤64;omega))) (by simp only [AL,Cg,LX]) ?_;simp only [t2,t3,t4,Bn,seval];repeat refine sd ?_
        refine ⟨i + 1,by omega,by omega,?_⟩;refine Ak.fr [0,1,2,3,4,5,6,7] [] hx AG Al ?_ ?_
        ·simp only [LY,seval]
        ·simp only [Fh,seval];intro q hq;by_cases e:q=b.toNat + i
         ·subst e;rw [if_pos rfl,if_pos Aa,Nat.add_sub_cancel_left];simp only [W,LY,seval]
         ·rw [if_neg e];by_cases e2:b.toNat≤q∧q < b.toNat + i
          ·rw [if_pos Aa,if_pos e2];simp only [W,LY,seval]
          ·rw [if_neg Aa,if_neg e2];simp only [W,LY,seval]
   ·cases o with
    | none =>
      have hG:Ae M 328 [.ptr 0 [],dg D] _ _ _:=IN ok w l D _ hp hn;simp only [DU,Ai] at hG;refine Nt [0,1,2,3,4] [0,1,2,3,4] (hG) (by constructor <;> (try simp only [Ka,G9,LY,seval]) <;> first | exact q1 | (exact fun j hj=>(hP j hj).symm)) (by simp only [Ka,G9,LX]) ?_;simp only [Lbh,Lc3,seval];have zz:=@c7;refine GY [5] (BQ ok.toOkV f g pc false xt EQ) ?_;simp only [mach,Bn,seval];have zz:=D0 Sc @pM.eq_1 @pM.eq_2 @l6;exact AI hx [0,1,2,3,4,5,135] ⟨rfl,rfl,rfl⟩
    | some p =>
      have hG:Ae M 328 [.ptr 0 [],dg D] _ _ _:=IN ok w l D _ hp hn;simp only [DU,Ai] at hG;refine Nt [0,1,2,3,4] [0,1,2,3,4] (hG) (by constructor <;> (try simp only [Ka,G9,LY,seval]) <;> first | exact q1 | (exact fun j hj=>(hP j hj).symm)) (by simp only [Ka,G9,LX]) ?_;simp only [Lbh,seval];refine Am (σ:=Nat) (fun i=>i≤8) (fun i=>fr 94 [(0,.ptr 5 []),(4,W b),(16,.sl 7 [] 0 64 1),(77,W 8#64),(78,W (BitVec.ofNat 64 i))])
       (fun i=>AS w (.sl 6 [] 0 1 32) (Dx D true l) ++ [(5,mach (fun j=>if b.toNat≤j∧j < b.toNat + i then J9 (fun i=>p.at (8 * (j - b.toNat) + i)) 8 else f j) g pc false xt),(6,.ar 32 1 fun _=>dg D),(7,AL p)]) (fun _=>8) (fun i=>8 - i) 0 Aa ?_ ?_
      ·refine Ak.fr [0,1,2,3,4,5,135,199] [] hx AG Al ?_ ?_
       ·simp only [LY,seval]
       ·simp only [JU,Fh,seval];exact fun i _=>(if_neg Aa).symm
      ·intro i hi;refine eX ?_;by_cases h4:i=8
       ·subst h4;simp only [GW,seval];have zz:=Cv Sc @pM.eq_1 @pM.eq_2;exact AI hx [0,1,2,3,4,5,6] ⟨rfl,rfl,rfl⟩
       ·have t1:(BitVec.ofNat 64 i).toNat=i:=Sq;have d0:(BitVec.ofNat 64 i < 8#64)=True:=eq_true Agn;have t2:(8#64 * BitVec.ofNat 64 i).toNat=8 * i:=Tq;have t3:(b + BitVec.ofNat 64 i).toNat=b.toNat + i:=WM;have t4:BitVec.ofNat 64 i + 1#64=BitVec.ofNat 64 (i + 1):=Wc;simp only [d0,t2,t3,t4,GW,seval];repeat refine sd ?_
        refine opK (DQ ok (64 - 8 * i) Aa (fun j=>p.at (8 * i + j))) (by (try simp only [AL,BI,seval]) <;> first | exact q1 | ((show 8 * i + (64 - 8 * i)≤64;omega))) (by simp only [AL,Cg,LX]) ?_;simp only [t2,t3,t4,Bn,seval];repeat refine sd ?_
        refine ⟨i + 1,by omega,by omega,?_⟩;refine Ak.fr [0,1,2,3,4,5,6,7] [] hx AG Al ?_ ?_
        ·simp only [LY,seval]
        ·simp only [Fh,seval];intro q hq;by_cases e:q=b.toNat + i
         ·subst e;rw [if_pos rfl,if_pos Aa,Nat.add_sub_cancel_left];simp only [W,LY,seval]
         ·rw [if_neg e];by_cases e2:b.toNat≤q∧q < b.toNat + i
          ·rw [if_pos Aa,if_pos e2];simp only [W,LY,seval]
          ·rw [if_neg Aa,if_neg e2];simp only [W,LY,seval]
  ·have d0:((i:Int) < 4)=True:=eq_true Aa;have w0:IntKind.i64.wrap ((i:Int) + 1)=((i + 1:Nat):Int):=AW;have n0:(0:Int)≤(i:Int):=Aa;simp only [d0,w0,GW,seval];repeat refine sd ?_
   have zz:=@Cg;refine GY [6] (DR okA ok (8 * i) Aa (Bo fun j=>f (a.toNat + j)) (f (a.toNat + i))) ?_;simp only [Bn,w0,seval];repeat refine sd ?_
   refine ⟨i + 1,by omega,by omega,by omega,?_⟩;have e88:8 * (i + 1)=8 * i + 8:=Aa;rw [e88];refine Ak.fr [0,1,2,3,4,5,103] [] hx AG Al ?_ ?_
   ·simp only [LY,seval]
   ·simp only [Fh,seval];intro q hq;by_cases e:q < 8 * i
    ·rw [if_pos e]
    ·have e1:q / 8=i:=Aa;have e2:q % 8=q - 8 * i:=Aa;rw [if_neg e,Bo,e1,e2]
theorem MQ {M:Seat} (okA:OkM M) (ok:OkO M) (w:WS) (n:Nat) (hn40:n < 1099511627776) (q:Nat→Dg) (l:List (Dg × Bool)) (f g:Nat→BitVec 64) (pc xt:BitVec 64) (a b:BitVec 64) (ha:a.toNat + 4≤8192) (hb:b.toNat + 8≤8192) (o:Option Pr) (sn:Bool) (hp:En (Dg.mk' (Bo fun j=>f (a.toNat + j))) w.pres=o) (hs:was l (Dg.mk' (Bo fun j=>f (a.toNat + j))) sn) :
 Ae M 217 [.ptr 5 [],.ptr 0 [],.int .i64 35,W a,W b] (AS w (.sl 6 [] 0 n 32) l ++ [(5,mach f g pc false xt),(6,.ar 32 n fun i=>dg (q i))]) 7
  (Q3 (.bool o.isSome) (pSS w n l (Dg.mk' (Bo fun j=>f (a.toNat + j))) sn ++ (5,pM f g pc xt b o) :: pAS n q (Dg.mk' (Bo fun j=>f (a.toNat + j))) sn) (if sn then 7 else 8)):=by
 refine Ab ok.k217 rfl fun x hx=>?_;have h1:(decide (a≤8192#64) && decide (4#64≤8192#64 - a))=true:=by
  have:a.toNat≤8192:=Aa;simp only [Lao,decide_eq_true_eq];omega
 have h2:(decide (b≤8192#64) && decide (8#64≤8192#64 - b))=true:=by
  have:b.toNat≤8192:=Aa;simp only [Lao,decide_eq_true_eq];omega
 refine eX ?_;simp only [OB,OU,GW,seval];refine Aj (Bw ok a 4#64) ?_;simp only [h1,LZ,seval];refine Aj (Bw ok b 8#64) ?_;simp only [h2,LZ,seval];have e8:(a + 4#64).toNat=a.toNat + 4:=Aqu;rw [e8,Nat.add_sub_cancel_left];repeat refine sd ?_
 refine A5 ?_;refine eX ?_;simp only [Bn,seval];repeat refine sd ?_
 refine DY (DS okA ok (f (a.toNat + 0))) ?_;simp only [Bn,seval];repeat refine sd ?_
 have w1:IntKind.i64.wrap 1=1:=Al;rw [w1];refine Am (σ:=Nat) (fun i=>1≤i∧i≤4) (fun i=>fr 94 [(0,.ptr 5 []),(1,.ptr 0 []),(2,.int .i64 35),(4,W b),(12,W 8#64),(13,.sl 7 [] 0 (8 * i) 1),(43,.sl 5 [Stp.f 0] a.toNat 4 1),(44,.int .i64 4),(45,.int .i64 i)])
  (fun i=>AS w (.sl 6 [] 0 n 32) l ++ [(5,mach f g pc false xt),(6,.ar 32 n fun i=>dg (q i)),(7,.ar 1 (8 * i) fun j=>B (Bo (fun j=>f (a.toNat + j)) j))]) (fun _=>8) (fun i=>4 - i) 1 Aa ?_ ?_
 ·refine Ak.fr [0,1,2,3,4,5,6,551] [] hx AG Al ?_ ?_
  ·simp only [LY,seval]
  ·simp only [JU,Fh,seval];intro i hi;have q1:i / 8=0:=Aa;have q2:i % 8=i:=Aa;simp only [Bo,q1,q2,Nat.add_zero]
 ·rintro i ⟨hi1,hi⟩;refine eX ?_;by_cases h8:i=4
  ·subst h8;simp only [GW,seval];repeat refine sd ?_
   have hP:∀ j,j < 32→(Dg.mk' (Bo fun j=>f (a.toNat + j))).at j=Bo (fun j=>f (a.toNat + j)) j:=fun j hj=>Dg.at_mk' _ _ hj;generalize Dg.mk' (Bo fun j=>f (a.toNat + j))=D at *
   rcases hs with ⟨rfl,hn⟩ | ⟨rfl,hn⟩
   ·cases o with
    | none =>
      have hG:Ae M 328 [.ptr 0 [],dg D] _ _ _:=Is ok w n q l D _ hp hn;simp only [DU,Ai] at hG;refine Nt [0,1,2,3,4,6] [0,1,2,3,4,6] (hG) (by constructor <;> (try simp only [Ka,G9,LY,seval]) <;> first | exact q1 | (exact fun j hj=>(hP j hj).symm)) (by simp only [Ka,G9,LX]) ?_;simp only [Lbh,Lc3,seval];have zz:=@c7;refine GY [5] (BQ ok.toOkV f g pc false xt EQ) ?_;simp only [mach,Bn,seval];have zz:=D0 Sc @pM.eq_1 @pM.eq_2 @l6;exact AI hx [0,1,2,3,4,5,6] ⟨rfl,rfl,rfl⟩
    | some p =>
      have hG:Ae M 328 [.ptr 0 [],dg D] _ _ _:=Is ok w n q l D _ hp hn;simp only [DU,Ai] at hG;refine Nt [0,1,2,3,4,6] [0,1,2,3,4,6] (hG) (by constructor <;> (try simp only [Ka,G9,LY,seval]) <;> first | exact q1 | (exact fun j hj=>(hP j hj).symm)) (by simp only [Ka,G9,LX]) ?_;simp only [Lbh,seval];refine Am (σ:=Nat) (fun i=>i≤8) (fun i=>fr 94 [(0,.ptr 5 []),(4,W b),(16,.sl 8 [] 0 64 1),(77,W 8#64),(78,W (BitVec.ofNat 64 i))])
       (fun i=>AS w (.sl 6 [] 0 n 32) l ++ [(5,mach (fun j=>if b.toNat≤j∧j < b.toNat + i then J9 (fun i=>p.at (8 * (j - b.toNat) + i)) 8 else f j) g pc false xt),(6,.ar 32 n fun i=>dg (q i)),(8,AL p)]) (fun _=>9) (fun i=>8 - i) 0 Aa ?_ ?_
      ·refine Ak.fr [0,1,2,3,4,5,6,7,200] [] hx AG Al ?_ ?_
       ·simp only [LY,seval]
       ·simp only [JU,Fh,seval];exact fun i _=>(if_neg Aa).symm
      ·intro i hi;refine eX ?_;by_cases h4:i=8
       ·subst h4;simp only [GW,seval];have zz:=Cv Sc @pM.eq_1 @pM.eq_2;exact AI hx [0,1,2,3,4,5,6] ⟨rfl,rfl,rfl⟩
       ·have t1:(BitVec.ofNat 64 i).toNat=i:=Sq;have d0:(BitVec.ofNat 64 i < 8#64)=True:=eq_true Agn;have t2:(8#64 * BitVec.ofNat 64 i).toNat=8 * i:=Tq;have t3:(b + BitVec.ofNat 64 i).toNat=b.toNat + i:=WM;have t4:BitVec.ofNat 64 i + 1#64=BitVec.ofNat 64 (i + 1):=Wc;simp only [d0,t2,t3,t4,GW,seval];repeat refine sd ?_
        refine opK (DQ ok (64 - 8 * i) Aa (fun j=>p.at (8 * i + j))) (by (try simp only [AL,BI,seval]) <;> first | exact q1 | ((show 8 * i + (64 - 8 * i)≤64;omega))) (by simp only [AL,Cg,LX]) ?_;simp only [t2,t3,t4,Bn,seval];repeat refine sd ?_
        refine ⟨i + 1,by omega,by omega,?_⟩;refine Ak.fr [0,1,2,3,4,5,6,7,8] [] hx AG Al ?_ ?_
        ·simp only [LY,seval]
        ·simp only [Fh,seval];intro q hq;by_cases e:q=b.toNat + i
         ·subst e;rw [if_pos rfl,if_pos Aa,Nat.add_sub_cancel_left];simp only [W,LY,seval]
         ·rw [if_neg e];by_cases e2:b.toNat≤q∧q < b.toNat + i
          ·rw [if_pos Aa,if_pos e2];simp only [W,LY,seval]
          ·rw [if_neg Aa,if_neg e2];simp only [W,LY,seval]
   ·cases o with
    | none =>
      have hG:Ae M 328 [.ptr 0 [],dg D] _ _ _:=HW ok w n hn40 q l D _ hp hn;simp only [DU,Ai] at hG;refine Nt [0,1,2,3,4,6] [0,1,2,3,4,6] (hG) (by constructor <;> (try simp only [Ka,G9,LY,seval]) <;> first | exact q1 | (exact fun j hj=>(hP j hj).symm)) (by simp only [Ka,G9,LX]) ?_;simp only [Lbh,Lc3,seval];have zz:=@c7;refine GY [5] (BQ ok.toOkV f g pc false xt EQ) ?_;simp only [mach,Bn,seval];have zz:=D0 Sc @pM.eq_1 @pM.eq_2 @l6;exact AI hx [0,1,2,3,4,5,6,136] ⟨rfl,rfl,rfl⟩
    | some p =>
      have hG:Ae M 328 [.ptr 0 [],dg D] _ _ _:=HW ok w n hn40 q l D _ hp hn;simp only [DU,Ai] at hG;refine Nt [0,1,2,3,4,6] [0,1,2,3,4,6] (hG) (by constructor <;> (try simp only [Ka,G9,LY,seval]) <;> first | exact q1 | (exact fun j hj=>(hP j hj).symm)) (by simp only [Ka,G9,LX]) ?_;simp only [Lbh,seval];refine Am (σ:=Nat) (fun i=>i≤8) (fun i=>fr 94 [(0,.ptr 5 []),(4,W b),(16,.sl 8 [] 0 64 1),(77,W 8#64),(78,W (BitVec.ofNat 64 i))])
       (fun i=>AS w (.sl 7 [] 0 (n + 1) 32) (Dx D true l) ++ [(5,mach (fun j=>if b.toNat≤j∧j < b.toNat + i then J9 (fun i=>p.at (8 * (j - b.toNat) + i)) 8 else f j) g pc false xt),(7,.ar 32 (n + 1) fun i=>dg (if i < n then q i else D)),(8,AL p)]) (fun _=>9) (fun i=>8 - i) 0 Aa ?_ ?_
      ·refine Ak.fr [0,1,2,3,4,5,6,136,200] [] hx AG Al ?_ ?_
       ·simp only [LY,seval]
       ·simp only [JU,Fh,seval];exact fun i _=>(if_neg Aa).symm
      ·intro i hi;refine eX ?_;by_cases h4:i=8
       ·subst h4;simp only [GW,seval];have zz:=Cv Sc @pM.eq_1 @pM.eq_2;exact AI hx [0,1,2,3,4,5,6,7] ⟨rfl,rfl,rfl⟩
       ·have t1:(BitVec.ofNat 64 i).toNat=i:=Sq;have d0:(BitVec.ofNat 64 i < 8#64)=True:=eq_true Agn;have t2:(8#64 * BitVec.ofNat 64 i).toNat=8 * i:=Tq;have t3:(b + BitVec.ofNat 64 i).toNat=b.toNat + i:=WM;have t4:BitVec.ofNat 64 i + 1#64=BitVec.ofNat 64 (i + 1):=Wc;simp only [d0,t2,t3,t4,GW,seval];repeat refine sd ?_
        refine opK (DQ ok (64 - 8 * i) Aa (fun j=>p.at (8 * i + j))) (by (try simp only [AL,BI,seval]) <;> first | exact q1 | ((show 8 * i + (64 - 8 * i)≤64;omega))) (by simp only [AL,Cg,LX]) ?_;simp only [t2,t3,t4,Bn,seval];repeat refine sd ?_
        refine ⟨i + 1,by omega,by omega,?_⟩;refine Ak.fr [0,1,2,3,4,5,6,7,8] [] hx AG Al ?_ ?_
        ·simp only [LY,seval]
        ·simp only [Fh,seval];intro q hq;by_cases e:q=b.toNat + i
         ·subst e;rw [if_pos rfl,if_pos Aa,Nat.add_sub_cancel_left];simp only [W,LY,seval]
         ·rw [if_neg e];by_cases e2:b.toNat≤q∧q < b.toNat + i
          ·rw [if_pos Aa,if_pos e2];simp only [W,LY,seval]
          ·rw [if_neg Aa,if_neg e2];simp only [W,LY,seval]
  ·have d0:((i:Int) < 4)=True:=eq_true Aa;have w0:IntKind.i64.wrap ((i:Int) + 1)=((i + 1:Nat):Int):=AW;have n0:(0:Int)≤(i:Int):=Aa;simp only [d0,w0,GW,seval];repeat refine sd ?_
   have zz:=@Cg;refine GY [7] (DR okA ok (8 * i) Aa (Bo fun j=>f (a.toNat + j)) (f (a.toNat + i))) ?_;simp only [Bn,w0,seval];repeat refine sd ?_
   refine ⟨i + 1,by omega,by omega,by omega,?_⟩;have e88:8 * (i + 1)=8 * i + 8:=Aa;rw [e88];refine Ak.fr [0,1,2,3,4,5,6,104] [] hx AG Al ?_ ?_
   ·simp only [LY,seval]
   ·simp only [Fh,seval];intro q hq;by_cases e:q < 8 * i
    ·rw [if_pos e]
    ·have e1:q / 8=i:=Aa;have e2:q % 8=q - 8 * i:=Aa;rw [if_neg e,Bo,e1,e2]
def u9:=@pM.eq_1
def v7:=@pM.eq_2
def pQ (f g:Nat→BitVec 64) (pc xt b:BitVec 64):Option Pr→V
 | some p=>mach (fun j=>if b.toNat≤j∧j < b.toNat + 8 then J9 (fun i=>p.at (8 * (j - b.toNat) + i)) 8 else f j) g (pc + 1#64) false xt
 | none=>mach f g pc true EQ
theorem JT {M:Seat} (okA:OkM M) (ok:OkO M) (s:WS) (l:List (Dg × Bool)) (f g:Nat→BitVec 64) (pc xt:BitVec 64) (hpc:¬ 8192#64≤pc) (w:BitVec 64) (hw:f pc.toNat=w) (hop:Cj w=35) (h2:w >>> 32 &&& 255#64=0#64)
 (ha:(g (pF w 48)).toNat + 4≤8192) (hb:(g (pF w 44)).toNat + 8≤8192) (D:Dg) (hD:Dg.mk' (Bo fun j=>f ((g (pF w 48)).toNat + j))=D) (o:Option Pr) (sn:Bool) (hl:En D s.pres=o) (hs:was l D sn) :
 Ae M 70 [.ptr 5 [],.ptr 0 []] (AS s .nils l ++ [(5,mach f g pc false xt)]) 6
  (Q3 .nili (pSN s l D sn ++ (5,pQ f g pc xt (g (pF w 44)) o) :: pAN D sn) (if sn then 6 else 7)):=by
 refine Ab ok.k70 rfl fun x hx=>?_;have hp:pc.toNat < 8192:=Ha;have a1:=At w 52;have a2:=At w 48;have a3:=At w 44;have hO:=Nf okA ok s l f g pc xt _ _ ha hb o sn (by rw [hD];exact hl) (by rw [hD];exact hs);rw [hD] at hO;clear hD hl hs;refine eX ?_;simp only [Se,Sb,JU,hpc,hw,LZ,seval];repeat refine sd ?_
 have zz:=@j3;refine Ge (AC ok.toOkV w Aa h2) ?_;simp only [HQ,hop,seval];repeat refine sd ?_
 cases sn with
 | true =>
   cases o with
   | none =>
     simp only [Option.isSome,pM,Lb8] at hO;have zz:=AY JU G9;refine U2 [0,1,2,3,4,5] (hO) ?_;simp only [GW,A3,seval];repeat refine sd ?_
     have zz:=Cv Sc @pQ.eq_1 @pQ.eq_2;exact AI hx [0,1,2,3,4,5] ⟨rfl,rfl,rfl⟩
   | some p =>
     simp only [Option.isSome,pM,Lb8] at hO;simp only [pQ];generalize (fun j=>if (g (pF w 44)).toNat≤j∧j < (g (pF w 44)).toNat + 8 then J9 (fun i=>p.at (8 * (j - (g (pF w 44)).toNat) + i)) 8 else f j)=F at *
     have zz:=AY JU G9;refine U2 [0,1,2,3,4,5] (hO) ?_;simp only [GW,A3,seval];repeat refine sd ?_
     have zz:=Cv Sc @pQ.eq_1 @pQ.eq_2;exact AI hx [0,1,2,3,4,5] ⟨rfl,rfl,rfl⟩
 | false =>
   cases o with
   | none =>
     simp only [Option.isSome,pM,Lb8] at hO;have zz:=AY JU G9;refine U2 [0,1,2,3,4,5] (hO) ?_;simp only [GW,A3,seval];repeat refine sd ?_
     have zz:=Cv Sc @pQ.eq_1 @pQ.eq_2;exact AI hx [0,1,2,3,4,5,2070] ⟨rfl,rfl,rfl⟩
   | some p =>
     simp only [Option.isSome,pM,Lb8] at hO;simp only [pQ];generalize (fun j=>if (g (pF w 44)).toNat≤j∧j < (g (pF w 44)).toNat + 8 then J9 (fun i=>p.at (8 * (j - (g (pF w 44)).toNat) + i)) 8 else f j)=F at *
     have zz:=AY JU G9;refine U2 [0,1,2,3,4,5] (hO) ?_;simp only [GW,A3,seval];repeat refine sd ?_
     have zz:=Cv Sc @pQ.eq_1 @pQ.eq_2;exact AI hx [0,1,2,3,4,5,2070] ⟨rfl,rfl,rfl⟩
theorem JH {M:Seat} (okA:OkM M) (ok:OkO M) (s:WS) (n:Nat) (hn40:n < 1099511627776) (q:Nat→Dg) (l:List (Dg × Bool)) (f g:Nat→BitVec 64) (pc xt:BitVec 64) (hpc:¬ 8192#64≤pc) (w:BitVec 64) (hw:f pc.toNat=w) (hop:Cj w=35) (h2:w >>> 32 &&& 255#64=0#64)
 (ha:(g (pF w 48)).toNat + 4≤8192) (hb:(g (pF w 44)).toNat + 8≤8192) (D:Dg) (hD:Dg.mk' (Bo fun j=>f ((g (pF w 48)).toNat + j))=D) (o:Option Pr) (sn:Bool) (hl:En D s.pres=o) (hs:was l D sn) :
 Ae M 70 [.ptr 5 [],.ptr 0 []] (AS s (.sl 6 [] 0 n 32) l ++ [(5,mach f g pc false xt),(6,.ar 32 n fun i=>dg (q i))]) 7
  (Q3 .nili (pSS s n l D sn ++ (5,pQ f g pc xt (g (pF w 44)) o) :: pAS n q D sn) (if sn then 7 else 8)):=by
 refine Ab ok.k70 rfl fun x hx=>?_;have hp:pc.toNat < 8192:=Ha;have a1:=At w 52;have a2:=At w 48;have a3:=At w 44;have hO:=MQ okA ok s n hn40 q l f g pc xt _ _ ha hb o sn (by rw [hD];exact hl) (by rw [hD];exact hs);rw [hD] at hO;clear hD hl hs;refine eX ?_;simp only [Se,Sb,JU,hpc,hw,LZ,seval];repeat refine sd ?_
 have zz:=@j3;refine Ge (AC ok.toOkV w Aa h2) ?_;simp only [HQ,hop,seval];repeat refine sd ?_
 cases sn with
 | true =>
   cases o with
   | none =>
     simp only [Option.isSome,pM,Lb8] at hO;have zz:=AY JU G9;refine U2 [0,1,2,3,4,5,6] (hO) ?_;simp only [GW,A3,seval];repeat refine sd ?_
     have zz:=Cv Sc @pQ.eq_1 @pQ.eq_2;exact AI hx [0,1,2,3,4,5,6] ⟨rfl,rfl,rfl⟩
   | some p =>
     simp only [Option.isSome,pM,Lb8] at hO;simp only [pQ];generalize (fun j=>if (g (pF w 44)).toNat≤j∧j < (g (pF w 44)).toNat + 8 then J9 (fun i=>p.at (8 * (j - (g (pF w 44)).toNat) + i)) 8 else f j)=F at *
     have zz:=AY JU G9;refine U2 [0,1,2,3,4,5,6] (hO) ?_;simp only [GW,A3,seval];repeat refine sd ?_
     have zz:=Cv Sc @pQ.eq_1 @pQ.eq_2;exact AI hx [0,1,2,3,4,5,6] ⟨rfl,rfl,rfl⟩
 | false =>
   cases o with
   | none =>
     simp only [Option.isSome,pM,Lb8] at hO;have zz:=AY JU G9;refine U2 [0,1,2,3,4,5,6] (hO) ?_;simp only [GW,A3,seval];repeat refine sd ?_
     have zz:=Cv Sc @pQ.eq_1 @pQ.eq_2;exact AI hx [0,1,2,3,4,5,6,2071] ⟨rfl,rfl,rfl⟩
   | some p =>
     simp only [Option.isSome,pM,Lb8] at hO;simp only [pQ];generalize (fun j=>if (g (pF w 44)).toNat≤j∧j < (g (pF w 44)).toNat + 8 then J9 (fun i=>p.at (8 * (j - (g (pF w 44)).toNat) + i)) 8 else f j)=F at *
     have zz:=AY JU G9;refine U2 [0,1,2,3,4,5,6] (hO) ?_;simp only [GW,A3,seval];repeat refine sd ?_
     have zz:=Cv Sc @pQ.eq_1 @pQ.eq_2;exact AI hx [0,1,2,3,4,5,6,2071] ⟨rfl,rfl,rfl⟩
def v8:=@pQ.eq_1
def v9:=@pQ.eq_2
structure SM where
 w:WS
 l:List (Dg × Bool)
 n:Nat
 q:Nat→Dg
 m:Mc
def Nh (s:SM):Hp:=AS s.w .nils s.l ++ [(5,s.m.v)]
def Sh (b:Nat) (s:SM):Hp:=AS s.w (.sl b [] 0 s.n 32) s.l ++ [(5,s.m.v),(b,.ar 32 s.n fun i=>dg (s.q i))]
theorem Ze (a:Nat × V) (l m:Hp):(a :: l) ++ m=a :: (l ++ m):=rfl
theorem Acj (l:Hp):([]:Hp) ++ l=l:=rfl
def IQ:=(Qe @Nh.eq_1 @Sh.eq_1 @AS.eq_1 @Uh.eq_1 @j5 @c7 @Ze @Acj)
inductive TrR (M:Seat) (f:Nat) (ex:List V) (r:V) (s s':SM):Prop
 | mach (h:Ae M f (.ptr 0 [] :: .ptr 1 [] :: ex) [(0,s.m.v)] 2 (fun v H' k'=>v=r∧H'=[(0,s'.m.v)]∧k'=2)) (hw:s'={ s with m:=s'.m })
 | NN (h0:s.n=0) (h1:s'.n=0) (h:Ae M f (.ptr 5 [] :: .ptr 0 [] :: ex) (Nh s) 6 (fun v H' k'=>v=r∧H'=Nh s'∧k'=6))
 | NS (h0:s.n=0) (h1:0 < s'.n) (h:Ae M f (.ptr 5 [] :: .ptr 0 [] :: ex) (Nh s) 6 (fun v H' k'=>v=r∧H'=Sh 6 s'∧k'=7))
 | SS (h0:0 < s.n) (h1:0 < s'.n) (h:Ae M f (.ptr 5 [] :: .ptr 0 [] :: ex) (Sh 6 s) 7 (fun v H' k'=>v=r∧H'=Sh 6 s'∧k'=7))
 | SN (h0:0 < s.n) (h1:0 < s'.n) (h:Ae M f (.ptr 5 [] :: .ptr 0 [] :: ex) (Sh 6 s) 7 (fun v H' k'=>v=r∧H'=Sh 7 s'∧k'=8))
abbrev J6 (M:Seat) (s s':SM):Prop:=TrR M 70 [] .nili s s'∧s'.n≤s.n + 1
theorem Eu {a n:BitVec 64} (h:wi a n=true):a.toNat + n.toNat≤8192:=by
 unfold wi at h;simp only [Bool.and_eq_true,decide_eq_true_eq,BitVec.le_def,BitVec.toNat_sub] at h;have e:(8192#64).toNat=8192:=rfl;rw [e] at h;omega
theorem Ahx {M:Seat} (okA:OkM M) (ok:OkO M) (okP:OkP M) (s:SM) (hs:s.n < 1099511627776):∃ s',J6 M s s':=by
 obtain ⟨w,l,n,q,m⟩:=s;by_cases ha:Rb m
 ·obtain ⟨f,g,pc,hl,xt⟩:=m;obtain ⟨h1,hpc,h2,ho⟩:=ha;dsimp only at h1 hpc h2 ho hs;subst h1;rcases ho with ⟨hop,hw⟩ | ⟨hop,hw⟩
  ·simp only [Bool.and_eq_true] at hw;have ha:=Eu hw.1;have hb:=Eu hw.2;cases n with
   | zero=>exact ⟨⟨_,l,0,q,⟨_,g,_,false,xt⟩⟩,.intro (.NN rfl rfl (Hu okA ok w l f g pc xt hpc _ rfl hop h2 ha hb)) B9⟩
   | succ n=>exact ⟨⟨_,l,n + 1,q,⟨_,g,_,false,xt⟩⟩,.intro (.SS (Nat.succ_pos _) (Nat.succ_pos _) (Gz (n + 1) q okA ok w l f g pc xt hpc _ rfl hop h2 ha hb)) B9⟩
  ·simp only [Bool.and_eq_true] at hw;have ha:=Eu hw.1;have hb:=Eu hw.2;obtain ⟨D,hD⟩:∃ D,Dg.mk' (Bo fun j=>f ((g (pF (f pc.toNat) 48)).toNat + j))=D:=⟨_,rfl⟩
   obtain ⟨sn,hs'⟩:∃ sn,was l D sn:=by
    cases hc:En D l with
    | none=>exact ⟨false,.inr ⟨rfl,.inl hc⟩⟩
    | some b => cases b with
      | false=>exact ⟨false,.inr ⟨rfl,.inr hc⟩⟩
      | true=>exact ⟨true,.inl ⟨rfl,hc⟩⟩
   obtain ⟨m',hm⟩:∃ m':Mc,pQ f g pc xt (g (pF (f pc.toNat) 44)) (En D w.pres)=m'.v:=by
    cases En D w.pres <;> exact ⟨⟨_,_,_,_,_⟩,rfl⟩
   cases n with
   | zero =>
     have h:=JT okA ok w l f g pc xt hpc _ rfl hop h2 ha hb D hD _ sn rfl hs';rw [hm] at h;cases sn with
     | true=>exact ⟨⟨w,l,0,q,m'⟩,.intro (.NN rfl rfl h) B9⟩
     | false=>exact ⟨⟨w,_,1,fun _=>D,m'⟩,.intro (.NS rfl Nat.one_pos h) B9⟩
   | succ n =>
     have h:=JH okA ok w (n + 1) hs q l f g pc xt hpc _ rfl hop h2 ha hb D hD _ sn rfl hs';rw [hm] at h;cases sn with
     | true=>exact ⟨⟨w,l,n + 1,q,m'⟩,.intro (.SS (Nat.succ_pos _) (Nat.succ_pos _) h) B9⟩
     | false=>exact ⟨⟨w,_,n + 1 + 1,_,m'⟩,.intro (.SN (Nat.succ_pos _) (Nat.succ_pos _) h) B9⟩
 ·obtain ⟨m',hm⟩:=Abv ok okP m ha;exact ⟨⟨w,l,n,q,m'⟩,.mach hm rfl,Nat.le_succ _⟩
structure OkT (M:Seat):Prop where
 okA:OkM M
 ok:OkO M
 okP:OkP M
theorem ZY {M:Seat} (ok:OkT M) (s:SM):∃ s',s.n < 1099511627776→J6 M s s'∧(s.m.hl=true→s'=s):=by
 by_cases hl:s.m.hl=true
 ·refine ⟨s,fun _=>⟨⟨.mach ?_ rfl,Nat.le_succ _⟩,fun _=>rfl⟩⟩;obtain ⟨w,l,n,q,f,g,pc,h,xt⟩:=s;dsimp only at hl;subst hl;exact Eo ok.ok.toOkV f g pc xt
 ·by_cases hn:s.n < 1099511627776
  ·obtain ⟨s',h⟩:=Ahx ok.okA ok.ok ok.okP s hn;exact ⟨s',fun _=>⟨h,fun h=>absurd h hl⟩⟩
  ·exact ⟨s,fun h=>absurd h hn⟩
noncomputable def nxt {M:Seat} (ok:OkT M) (s:SM):SM:=Classical.choose (ZY ok s)
noncomputable def QU (s:SM):Hp:=if s.n=0 then Nh s else Sh 6 s
noncomputable def QZ (s:SM):Nat:=if s.n=0 then 6 else 7
end Mv
