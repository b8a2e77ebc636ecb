/- A part. -/
import Derived.Test.YtncipgmjhaiagaaGreatDoorHF
set_option linter.all false
set_option maxRecDepth 20000
set_option maxHeartbeats 4000000
namespace Mv
open Go
abbrev Kq:BitVec 64:=18446744073709551615#64
def pM (f g:Nat→BitVec 64) (pc xt b:BitVec 64):Option Pr→V
 | some p=>mach (fun j=>if b.toNat≤j∧j < b.toNat + 8 then Jp (fun i=>p.at (8 * (j - b.toNat) + i)) 8 else f j) g pc false xt
 | none=>mach f g pc true Kq
def pSN (w:WS) (l:List (Dg × Bool)) (D:Dg):Bool→Hp
 | true=>AF w .nils l
 | false=>AF w (.sl 6 [] 0 1 32) (CG D true l)
def pAN (D:Dg):Bool→Hp
 | true=>[]
 | false=>[(6,.ar 32 1 fun _=>dg D)]
def pSS (w:WS) (n:Nat) (l:List (Dg × Bool)) (D:Dg):Bool→Hp
 | true=>AF w (.sl 6 [] 0 n 32) l
 | false=>AF w (.sl 7 [] 0 (n + 1) 32) (CG D true l)
def pAS (n:Nat) (q:Nat→Dg) (D:Dg):Bool→Hp
 | true=>[(6,.ar 32 n fun i=>dg (q i))]
 | false=>[(7,.ar 32 (n + 1) fun i=>dg (if i < n then q i else D))]
def Lb8:=(aq8 @pAN.eq_1 @pAN.eq_2 @pAS.eq_1 @pAS.eq_2 @pSN.eq_1 @pSN.eq_2 @pSS.eq_1 @pSS.eq_2)
def Qe:=(aq3 @Laa @IK @Lb8)
def was (l:List (Dg × Bool)) (D:Dg) (b:Bool):Prop:=(b=true∧Dv D l=some true) ∨ (b=false∧(Dv D l=none ∨ Dv D l=some false))
theorem Lx {M:Seat} (okA:OkM M) (ok:OkO M) (w:WS) (l:List (Dg × Bool)) (f g:Nat→BitVec 64) (pc xt:BitVec 64) (a b:BitVec 64) (ha:a.toNat + 4≤8192) (hb:b.toNat + 8≤8192) (o:Option Pr) (sn:Bool) (hp:Dv (Dg.mk' (A6 fun j=>f (a.toNat + j))) w.pres=o) (hs:was l (Dg.mk' (A6 fun j=>f (a.toNat + j))) sn) :
 Af M 217 [.ptr 5 [],.ptr 0 [],.int .i64 35,W a,W b] (AF w .nils l ++ [(5,mach f g pc false xt)]) 6
  (Q3 (.bool o.isSome) (pSN w l (Dg.mk' (A6 fun j=>f (a.toNat + j))) sn ++ (5,pM f g pc xt b o) :: pAN (Dg.mk' (A6 fun j=>f (a.toNat + j))) sn) (if sn then 6 else 7)):=by
 refine Ac ok.k217 rfl fun x hx=>?_
 have h1:(decide (a≤8192#64) && decide (4#64≤8192#64 - a))=true:=by
  have:a.toNat≤8192:=Aa
  simp only [Lao,decide_eq_true_eq];omega
 have h2:(decide (b≤8192#64) && decide (8#64≤8192#64 - b))=true:=by
  have:b.toNat≤8192:=Aa
  simp only [Lao,decide_eq_true_eq];omega
 refine es 2000 ?_;(simp only [Li,Nc,Gl,seval])
 refine Ah (AY ok a 4#64) ?_
 (simp only [h1,LZ,seval])
 refine Ah (AY ok b 8#64) ?_
 (simp only [h2,LZ,seval])
 have e8:(a + 4#64).toNat=a.toNat + 4:=Aji
 rw [e8,Nat.add_sub_cancel_left]
 repeat refine sd ?_
 refine AZ ?_
 refine es 2000 ?_
 (simp only [BA,seval])
 repeat refine sd ?_
 refine Gh (CX okA ok (f (a.toNat + 0))) ?_
 (simp only [BA,seval])
 repeat refine sd ?_
 have w1:IntKind.i64.wrap 1=1:=Ak
 rw [w1]
 refine Ag (σ:=Nat) (fun i=>1≤i∧i≤4) (fun i=>fr 94 [(0,.ptr 5 []),(1,.ptr 0 []),(2,.int .i64 35),(4,W b),(12,W 8#64),(13,.sl 6 [] 0 (8 * i) 1),(43,.sl 5 [Stp.f 0] a.toNat 4 1),(44,.int .i64 4),(45,.int .i64 i)])
  (fun i=>AF w .nils l ++ [(5,mach f g pc false xt),(6,.ar 1 (8 * i) fun j=>B (A6 (fun j=>f (a.toNat + j)) j))]) (fun _=>7) (fun i=>4 - i) 1 Aa ?_ ?_
 ·refine Aj.fr [0,1,2,3,4,5,550] [] hx Ax Ak ?_ ?_
  ·simp only [LY,seval]
  ·simp only [IK,Ik,seval]
   intro i hi
   have q1:i / 8=0:=Aa
   have q2:i % 8=i:=Aa
   simp only [A6,q1,q2,Nat.add_zero]
 ·rintro i ⟨hi1,hi⟩
  refine es 2000 ?_
  by_cases h8:i=4
  ·subst h8
   (simp only [Gl,seval])
   repeat refine sd ?_
   have hP:∀ j,j < 32→(Dg.mk' (A6 fun j=>f (a.toNat + j))).at j=A6 (fun j=>f (a.toNat + j)) j:=fun j hj=>Dg.at_mk' _ _ hj
   generalize Dg.mk' (A6 fun j=>f (a.toNat + j))=D at *
   rcases hs with ⟨rfl,hn⟩ | ⟨rfl,hn⟩
   ·cases o with
    | none =>
      have hG:Af M 328 [.ptr 0 [],dg D] _ _ _:=Hs ok w l D _ hp hn
      simp only [CW,Ao] at hG
      refine Xi [0,1,2,3,4] [0,1,2,3,4] (hG) (by constructor <;> (try simp only [G0,GM,LY,seval]) <;> first | exact q1 | (exact fun j hj=>(hP j hj).symm)) (by simp only [G0,GM,LX]) ?_
      (simp only [Sq,VE,seval])
      have zz:=@mach.eq_1;refine Fl [5] (Bw ok.toOkV f g pc false xt Kq) ?_
      (simp only [mach,BA,seval])
      have zz:=aq4 Qe @pM.eq_1 @pM.eq_2 @At.eq_1;exact Bg hx [0,1,2,3,4,5] ⟨rfl,rfl,rfl⟩
    | some p =>
      have hG:Af M 328 [.ptr 0 [],dg D] _ _ _:=Hs ok w l D _ hp hn
      simp only [CW,Ao] at hG
      refine Xi [0,1,2,3,4] [0,1,2,3,4] (hG) (by constructor <;> (try simp only [G0,GM,LY,seval]) <;> first | exact q1 | (exact fun j hj=>(hP j hj).symm)) (by simp only [G0,GM,LX]) ?_
      (simp only [Sq,seval])
      refine Ag (σ:=Nat) (fun i=>i≤8) (fun i=>fr 94 [(0,.ptr 5 []),(4,W b),(16,.sl 7 [] 0 64 1),(77,W 8#64),(78,W (BitVec.ofNat 64 i))])
       (fun i=>AF w .nils l ++ [(5,mach (fun j=>if b.toNat≤j∧j < b.toNat + i then Jp (fun i=>p.at (8 * (j - b.toNat) + i)) 8 else f j) g pc false xt),(7,At p)]) (fun _=>8) (fun i=>8 - i) 0 Aa ?_ ?_
      ·refine Aj.fr [0,1,2,3,4,5,6,199] [] hx Ax Ak ?_ ?_
       ·simp only [LY,seval]
       ·simp only [IK,Ik,seval]
        exact fun i _=>(if_neg Aa).symm
      ·intro i hi
       refine es 2000 ?_
       by_cases h4:i=8
       ·subst h4
        (simp only [Gl,seval])
        have zz:=aq3 Qe @pM.eq_1 @pM.eq_2;exact Bg hx [0,1,2,3,4,5] ⟨rfl,rfl,rfl⟩
       ·have t1:(BitVec.ofNat 64 i).toNat=i:=HG
        have d0:(BitVec.ofNat 64 i < 8#64)=True:=eq_true Aae
        have t2:(8#64 * BitVec.ofNat 64 i).toNat=8 * i:=Q1
        have t3:(b + BitVec.ofNat 64 i).toNat=b.toNat + i:=U9
        have t4:BitVec.ofNat 64 i + 1#64=BitVec.ofNat 64 (i + 1):=TC
        (simp only [d0,t2,t3,t4,Gl,seval])
        repeat refine sd ?_
        refine Y9 (Dh ok (64 - 8 * i) Aa (fun j=>p.at (8 * i + j))) (by (try simp only [At,CF,seval]) <;> first | exact q1 | ((show 8 * i + (64 - 8 * i)≤64;omega))) (by simp only [At,C6,LX]) ?_
        (simp only [t2,t3,t4,BA,seval])
        repeat refine sd ?_
        refine ⟨i + 1,by omega,by omega,?_⟩
        refine Aj.fr [0,1,2,3,4,5,6,7] [] hx Ax Ak ?_ ?_
        ·simp only [LY,seval]
        ·simp only [Ik,seval]
         intro q hq
         by_cases e:q=b.toNat + i
         ·subst e
          rw [if_pos rfl,if_pos Aa,Nat.add_sub_cancel_left];simp only [W,LY,seval]
         ·rw [if_neg e]
          by_cases e2:b.toNat≤q∧q < b.toNat + i
          ·rw [if_pos Aa,if_pos e2];simp only [W,LY,seval]
          ·rw [if_neg Aa,if_neg e2];simp only [W,LY,seval]
   ·cases o with
    | none =>
      have hG:Af M 328 [.ptr 0 [],dg D] _ _ _:=HE ok w l D _ hp hn
      simp only [CW,Ao] at hG
      refine Xi [0,1,2,3,4] [0,1,2,3,4] (hG) (by constructor <;> (try simp only [G0,GM,LY,seval]) <;> first | exact q1 | (exact fun j hj=>(hP j hj).symm)) (by simp only [G0,GM,LX]) ?_
      (simp only [Sq,VE,seval])
      have zz:=@mach.eq_1;refine Fl [5] (Bw ok.toOkV f g pc false xt Kq) ?_
      (simp only [mach,BA,seval])
      have zz:=aq4 Qe @pM.eq_1 @pM.eq_2 @At.eq_1;exact Bg hx [0,1,2,3,4,5,135] ⟨rfl,rfl,rfl⟩
    | some p =>
      have hG:Af M 328 [.ptr 0 [],dg D] _ _ _:=HE ok w l D _ hp hn
      simp only [CW,Ao] at hG
      refine Xi [0,1,2,3,4] [0,1,2,3,4] (hG) (by constructor <;> (try simp only [G0,GM,LY,seval]) <;> first | exact q1 | (exact fun j hj=>(hP j hj).symm)) (by simp only [G0,GM,LX]) ?_
      (simp only [Sq,seval])
      refine Ag (σ:=Nat) (fun i=>i≤8) (fun i=>fr 94 [(0,.ptr 5 []),(4,W b),(16,.sl 7 [] 0 64 1),(77,W 8#64),(78,W (BitVec.ofNat 64 i))])
       (fun i=>AF w (.sl 6 [] 0 1 32) (CG D true l) ++ [(5,mach (fun j=>if b.toNat≤j∧j < b.toNat + i then Jp (fun i=>p.at (8 * (j - b.toNat) + i)) 8 else f j) g pc false xt),(6,.ar 32 1 fun _=>dg D),(7,At p)]) (fun _=>8) (fun i=>8 - i) 0 Aa ?_ ?_
      ·refine Aj.fr [0,1,2,3,4,5,135,199] [] hx Ax Ak ?_ ?_
       ·simp only [LY,seval]
       ·simp only [IK,Ik,seval]
        exact fun i _=>(if_neg Aa).symm
      ·intro i hi
       refine es 2000 ?_
       by_cases h4:i=8
       ·subst h4
        (simp only [Gl,seval])
        have zz:=aq3 Qe @pM.eq_1 @pM.eq_2;exact Bg hx [0,1,2,3,4,5,6] ⟨rfl,rfl,rfl⟩
       ·have t1:(BitVec.ofNat 64 i).toNat=i:=HG
        have d0:(BitVec.ofNat 64 i < 8#64)=True:=eq_true Aae
        have t2:(8#64 * BitVec.ofNat 64 i).toNat=8 * i:=Q1
        have t3:(b + BitVec.ofNat 64 i).toNat=b.toNat + i:=U9
        have t4:BitVec.ofNat 64 i + 1#64=BitVec.ofNat 64 (i + 1):=TC
        (simp only [d0,t2,t3,t4,Gl,seval])
        repeat refine sd ?_
        refine Y9 (Dh ok (64 - 8 * i) Aa (fun j=>p.at (8 * i + j))) (by (try simp only [At,CF,seval]) <;> first | exact q1 | ((show 8 * i + (64 - 8 * i)≤64;omega))) (by simp only [At,C6,LX]) ?_
        (simp only [t2,t3,t4,BA,seval])
        repeat refine sd ?_
        refine ⟨i + 1,by omega,by omega,?_⟩
        refine Aj.fr [0,1,2,3,4,5,6,7] [] hx Ax Ak ?_ ?_
        ·simp only [LY,seval]
        ·simp only [Ik,seval]
         intro q hq
         by_cases e:q=b.toNat + i
         ·subst e
          rw [if_pos rfl,if_pos Aa,Nat.add_sub_cancel_left];simp only [W,LY,seval]
         ·rw [if_neg e]
          by_cases e2:b.toNat≤q∧q < b.toNat + i
          ·rw [if_pos Aa,if_pos e2];simp only [W,LY,seval]
          ·rw [if_neg Aa,if_neg e2];simp only [W,LY,seval]
  ·have d0:((i:Int) < 4)=True:=eq_true Aa
   have w0:IntKind.i64.wrap ((i:Int) + 1)=((i + 1:Nat):Int):=A9
   have n0:(0:Int)≤(i:Int):=Aa
   (simp only [d0,w0,Gl,seval])
   repeat refine sd ?_
   have zz:=@C6;refine Fl [6] (CZ okA ok (8 * i) Aa (A6 fun j=>f (a.toNat + j)) (f (a.toNat + i))) ?_
   (simp only [BA,w0,seval])
   repeat refine sd ?_
   refine ⟨i + 1,by omega,by omega,by omega,?_⟩
   have e88:8 * (i + 1)=8 * i + 8:=Aa
   rw [e88]
   refine Aj.fr [0,1,2,3,4,5,103] [] hx Ax Ak ?_ ?_
   ·simp only [LY,seval]
   ·simp only [Ik,seval]
    intro q hq
    by_cases e:q < 8 * i
    ·rw [if_pos e]
    ·have e1:q / 8=i:=Aa
     have e2:q % 8=q - 8 * i:=Aa
     rw [if_neg e,A6,e1,e2]
theorem L7 {M:Seat} (okA:OkM M) (ok:OkO M) (w:WS) (n:Nat) (hn40:n < 1099511627776) (q:Nat→Dg) (l:List (Dg × Bool)) (f g:Nat→BitVec 64) (pc xt:BitVec 64) (a b:BitVec 64) (ha:a.toNat + 4≤8192) (hb:b.toNat + 8≤8192) (o:Option Pr) (sn:Bool) (hp:Dv (Dg.mk' (A6 fun j=>f (a.toNat + j))) w.pres=o) (hs:was l (Dg.mk' (A6 fun j=>f (a.toNat + j))) sn) :
 Af M 217 [.ptr 5 [],.ptr 0 [],.int .i64 35,W a,W b] (AF w (.sl 6 [] 0 n 32) l ++ [(5,mach f g pc false xt),(6,.ar 32 n fun i=>dg (q i))]) 7
  (Q3 (.bool o.isSome) (pSS w n l (Dg.mk' (A6 fun j=>f (a.toNat + j))) sn ++ (5,pM f g pc xt b o) :: pAS n q (Dg.mk' (A6 fun j=>f (a.toNat + j))) sn) (if sn then 7 else 8)):=by
 refine Ac ok.k217 rfl fun x hx=>?_
 have h1:(decide (a≤8192#64) && decide (4#64≤8192#64 - a))=true:=by
  have:a.toNat≤8192:=Aa
  simp only [Lao,decide_eq_true_eq];omega
 have h2:(decide (b≤8192#64) && decide (8#64≤8192#64 - b))=true:=by
  have:b.toNat≤8192:=Aa
  simp only [Lao,decide_eq_true_eq];omega
 refine es 2000 ?_;(simp only [Li,Nc,Gl,seval])
 refine Ah (AY ok a 4#64) ?_
 (simp only [h1,LZ,seval])
 refine Ah (AY ok b 8#64) ?_
 (simp only [h2,LZ,seval])
 have e8:(a + 4#64).toNat=a.toNat + 4:=Aji
 rw [e8,Nat.add_sub_cancel_left]
 repeat refine sd ?_
 refine AZ ?_
 refine es 2000 ?_
 (simp only [BA,seval])
 repeat refine sd ?_
 refine Gh (CX okA ok (f (a.toNat + 0))) ?_
 (simp only [BA,seval])
 repeat refine sd ?_
 have w1:IntKind.i64.wrap 1=1:=Ak
 rw [w1]
 refine Ag (σ:=Nat) (fun i=>1≤i∧i≤4) (fun i=>fr 94 [(0,.ptr 5 []),(1,.ptr 0 []),(2,.int .i64 35),(4,W b),(12,W 8#64),(13,.sl 7 [] 0 (8 * i) 1),(43,.sl 5 [Stp.f 0] a.toNat 4 1),(44,.int .i64 4),(45,.int .i64 i)])
  (fun i=>AF w (.sl 6 [] 0 n 32) l ++ [(5,mach f g pc false xt),(6,.ar 32 n fun i=>dg (q i)),(7,.ar 1 (8 * i) fun j=>B (A6 (fun j=>f (a.toNat + j)) j))]) (fun _=>8) (fun i=>4 - i) 1 Aa ?_ ?_
 ·refine Aj.fr [0,1,2,3,4,5,6,551] [] hx Ax Ak ?_ ?_
  ·simp only [LY,seval]
  ·simp only [IK,Ik,seval]
   intro i hi
   have q1:i / 8=0:=Aa
   have q2:i % 8=i:=Aa
   simp only [A6,q1,q2,Nat.add_zero]
 ·rintro i ⟨hi1,hi⟩
  refine es 2000 ?_
  by_cases h8:i=4
  ·subst h8
   (simp only [Gl,seval])
   repeat refine sd ?_
   have hP:∀ j,j < 32→(Dg.mk' (A6 fun j=>f (a.toNat + j))).at j=A6 (fun j=>f (a.toNat + j)) j:=fun j hj=>Dg.at_mk' _ _ hj
   generalize Dg.mk' (A6 fun j=>f (a.toNat + j))=D at *
   rcases hs with ⟨rfl,hn⟩ | ⟨rfl,hn⟩
   ·cases o with
    | none =>
      have hG:Af M 328 [.ptr 0 [],dg D] _ _ _:=HJ ok w n q l D _ hp hn
      simp only [CW,Ao] at hG
      refine Xi [0,1,2,3,4,6] [0,1,2,3,4,6] (hG) (by constructor <;> (try simp only [G0,GM,LY,seval]) <;> first | exact q1 | (exact fun j hj=>(hP j hj).symm)) (by simp only [G0,GM,LX]) ?_
      (simp only [Sq,VE,seval])
      have zz:=@mach.eq_1;refine Fl [5] (Bw ok.toOkV f g pc false xt Kq) ?_
      (simp only [mach,BA,seval])
      have zz:=aq4 Qe @pM.eq_1 @pM.eq_2 @At.eq_1;exact Bg hx [0,1,2,3,4,5,6] ⟨rfl,rfl,rfl⟩
    | some p =>
      have hG:Af M 328 [.ptr 0 [],dg D] _ _ _:=HJ ok w n q l D _ hp hn
      simp only [CW,Ao] at hG
      refine Xi [0,1,2,3,4,6] [0,1,2,3,4,6] (hG) (by constructor <;> (try simp only [G0,GM,LY,seval]) <;> first | exact q1 | (exact fun j hj=>(hP j hj).symm)) (by simp only [G0,GM,LX]) ?_
      (simp only [Sq,seval])
      refine Ag (σ:=Nat) (fun i=>i≤8) (fun i=>fr 94 [(0,.ptr 5 []),(4,W b),(16,.sl 8 [] 0 64 1),(77,W 8#64),(78,W (BitVec.ofNat 64 i))])
       (fun i=>AF w (.sl 6 [] 0 n 32) l ++ [(5,mach (fun j=>if b.toNat≤j∧j < b.toNat + i then Jp (fun i=>p.at (8 * (j - b.toNat) + i)) 8 else f j) g pc false xt),(6,.ar 32 n fun i=>dg (q i)),(8,At p)]) (fun _=>9) (fun i=>8 - i) 0 Aa ?_ ?_
      ·refine Aj.fr [0,1,2,3,4,5,6,7,200] [] hx Ax Ak ?_ ?_
       ·simp only [LY,seval]
       ·simp only [IK,Ik,seval]
        exact fun i _=>(if_neg Aa).symm
      ·intro i hi
       refine es 2000 ?_
       by_cases h4:i=8
       ·subst h4
        (simp only [Gl,seval])
        have zz:=aq3 Qe @pM.eq_1 @pM.eq_2;exact Bg hx [0,1,2,3,4,5,6] ⟨rfl,rfl,rfl⟩
       ·have t1:(BitVec.ofNat 64 i).toNat=i:=HG
        have d0:(BitVec.ofNat 64 i < 8#64)=True:=eq_true Aae
        have t2:(8#64 * BitVec.ofNat 64 i).toNat=8 * i:=Q1
        have t3:(b + BitVec.ofNat 64 i).toNat=b.toNat + i:=U9
        have t4:BitVec.ofNat 64 i + 1#64=BitVec.ofNat 64 (i + 1):=TC
        (simp only [d0,t2,t3,t4,Gl,seval])
        repeat refine sd ?_
        refine Y9 (Dh ok (64 - 8 * i) Aa (fun j=>p.at (8 * i + j))) (by (try simp only [At,CF,seval]) <;> first | exact q1 | ((show 8 * i + (64 - 8 * i)≤64;omega))) (by simp only [At,C6,LX]) ?_
        (simp only [t2,t3,t4,BA,seval])
        repeat refine sd ?_
        refine ⟨i + 1,by omega,by omega,?_⟩
        refine Aj.fr [0,1,2,3,4,5,6,7,8] [] hx Ax Ak ?_ ?_
        ·simp only [LY,seval]
        ·simp only [Ik,seval]
         intro q hq
         by_cases e:q=b.toNat + i
         ·subst e
          rw [if_pos rfl,if_pos Aa,Nat.add_sub_cancel_left];simp only [W,LY,seval]
         ·rw [if_neg e]
          by_cases e2:b.toNat≤q∧q < b.toNat + i
          ·rw [if_pos Aa,if_pos e2];simp only [W,LY,seval]
          ·rw [if_neg Aa,if_neg e2];simp only [W,LY,seval]
   ·cases o with
    | none =>
      have hG:Af M 328 [.ptr 0 [],dg D] _ _ _:=HX ok w n hn40 q l D _ hp hn
      simp only [CW,Ao] at hG
      refine Xi [0,1,2,3,4,6] [0,1,2,3,4,6] (hG) (by constructor <;> (try simp only [G0,GM,LY,seval]) <;> first | exact q1 | (exact fun j hj=>(hP j hj).symm)) (by simp only [G0,GM,LX]) ?_
      (simp only [Sq,VE,seval])
      have zz:=@mach.eq_1;refine Fl [5] (Bw ok.toOkV f g pc false xt Kq) ?_
      (simp only [mach,BA,seval])
      have zz:=aq4 Qe @pM.eq_1 @pM.eq_2 @At.eq_1;exact Bg hx [0,1,2,3,4,5,6,136] ⟨rfl,rfl,rfl⟩
    | some p =>
      have hG:Af M 328 [.ptr 0 [],dg D] _ _ _:=HX ok w n hn40 q l D _ hp hn
      simp only [CW,Ao] at hG
      refine Xi [0,1,2,3,4,6] [0,1,2,3,4,6] (hG) (by constructor <;> (try simp only [G0,GM,LY,seval]) <;> first | exact q1 | (exact fun j hj=>(hP j hj).symm)) (by simp only [G0,GM,LX]) ?_
      (simp only [Sq,seval])
      refine Ag (σ:=Nat) (fun i=>i≤8) (fun i=>fr 94 [(0,.ptr 5 []),(4,W b),(16,.sl 8 [] 0 64 1),(77,W 8#64),(78,W (BitVec.ofNat 64 i))])
       (fun i=>AF w (.sl 7 [] 0 (n + 1) 32) (CG D true l) ++ [(5,mach (fun j=>if b.toNat≤j∧j < b.toNat + i then Jp (fun i=>p.at (8 * (j - b.toNat) + i)) 8 else f j) g pc false xt),(7,.ar 32 (n + 1) fun i=>dg (if i < n then q i else D)),(8,At p)]) (fun _=>9) (fun i=>8 - i) 0 Aa ?_ ?_
      ·refine Aj.fr [0,1,2,3,4,5,6,136,200] [] hx Ax Ak ?_ ?_
       ·simp only [LY,seval]
       ·simp only [IK,Ik,seval]
        exact fun i _=>(if_neg Aa).symm
      ·intro i hi
       refine es 2000 ?_
       by_cases h4:i=8
       ·subst h4
        (simp only [Gl,seval])
        have zz:=aq3 Qe @pM.eq_1 @pM.eq_2;exact Bg hx [0,1,2,3,4,5,6,7] ⟨rfl,rfl,rfl⟩
       ·have t1:(BitVec.ofNat 64 i).toNat=i:=HG
        have d0:(BitVec.ofNat 64 i < 8#64)=True:=eq_true Aae
        have t2:(8#64 * BitVec.ofNat 64 i).toNat=8 * i:=Q1
        have t3:(b + BitVec.ofNat 64 i).toNat=b.toNat + i:=U9
        have t4:BitVec.ofNat 64 i + 1#64=BitVec.ofNat 64 (i + 1):=TC
        (simp only [d0,t2,t3,t4,Gl,seval])
        repeat refine sd ?_
        refine Y9 (Dh ok (64 - 8 * i) Aa (fun j=>p.at (8 * i + j))) (by (try simp only [At,CF,seval]) <;> first | exact q1 | ((show 8 * i + (64 - 8 * i)≤64;omega))) (by simp only [At,C6,LX]) ?_
        (simp only [t2,t3,t4,BA,seval])
        repeat refine sd ?_
        refine ⟨i + 1,by omega,by omega,?_⟩
        refine Aj.fr [0,1,2,3,4,5,6,7,8] [] hx Ax Ak ?_ ?_
        ·simp only [LY,seval]
        ·simp only [Ik,seval]
         intro q hq
         by_cases e:q=b.toNat + i
         ·subst e
          rw [if_pos rfl,if_pos Aa,Nat.add_sub_cancel_left];simp only [W,LY,seval]
         ·rw [if_neg e]
          by_cases e2:b.toNat≤q∧q < b.toNat + i
          ·rw [if_pos Aa,if_pos e2];simp only [W,LY,seval]
          ·rw [if_neg Aa,if_neg e2];simp only [W,LY,seval]
  ·have d0:((i:Int) < 4)=True:=eq_true Aa
   have w0:IntKind.i64.wrap ((i:Int) + 1)=((i + 1:Nat):Int):=A9
   have n0:(0:Int)≤(i:Int):=Aa
   (simp only [d0,w0,Gl,seval])
   repeat refine sd ?_
   have zz:=@C6;refine Fl [7] (CZ okA ok (8 * i) Aa (A6 fun j=>f (a.toNat + j)) (f (a.toNat + i))) ?_
   (simp only [BA,w0,seval])
   repeat refine sd ?_
   refine ⟨i + 1,by omega,by omega,by omega,?_⟩
   have e88:8 * (i + 1)=8 * i + 8:=Aa
   rw [e88]
   refine Aj.fr [0,1,2,3,4,5,6,104] [] hx Ax Ak ?_ ?_
   ·simp only [LY,seval]
   ·simp only [Ik,seval]
    intro q hq
    by_cases e:q < 8 * i
    ·rw [if_pos e]
    ·have e1:q / 8=i:=Aa
     have e2:q % 8=q - 8 * i:=Aa
     rw [if_neg e,A6,e1,e2]
def pQ (f g:Nat→BitVec 64) (pc xt b:BitVec 64):Option Pr→V
 | some p=>mach (fun j=>if b.toNat≤j∧j < b.toNat + 8 then Jp (fun i=>p.at (8 * (j - b.toNat) + i)) 8 else f j) g (pc + 1#64) false xt
 | none=>mach f g pc true Kq
theorem PJ {M:Seat} (okA:OkM M) (ok:OkO M) (s:WS) (l:List (Dg × Bool)) (f g:Nat→BitVec 64) (pc xt:BitVec 64) (hpc:¬ 8192#64≤pc) (w:BitVec 64) (hw:f pc.toNat=w) (hop:AT w=35) (h2:w >>> 32 &&& 255#64=0#64)
 (ha:(g (pF w 48)).toNat + 4≤8192) (hb:(g (pF w 44)).toNat + 8≤8192) (D:Dg) (hD:Dg.mk' (A6 fun j=>f ((g (pF w 48)).toNat + j))=D) (o:Option Pr) (sn:Bool) (hl:Dv D s.pres=o) (hs:was l D sn) :
 Af M 70 [.ptr 5 [],.ptr 0 []] (AF s .nils l ++ [(5,mach f g pc false xt)]) 6
  (Q3 .nili (pSN s l D sn ++ (5,pQ f g pc xt (g (pF w 44)) o) :: pAN D sn) (if sn then 6 else 7)):=by
 refine Ac ok.k70 rfl fun x hx=>?_
 have hp:pc.toNat < 8192:=BM
 have a1:=Ai w 52
 have a2:=Ai w 48
 have a3:=Ai w 44
 have hO:=Lx okA ok s l f g pc xt _ _ ha hb o sn (by rw [hD];exact hl) (by rw [hD];exact hs)
 rw [hD] at hO
 clear hD hl hs
 refine es 2000 ?_;(simp only [P3,Qh,IK,hpc,hw,LZ,seval])
 repeat refine sd ?_
 have zz:=@Bb.eq_1;refine Gy (Az ok.toOkV w Aa h2) ?_
 (simp only [Hi,hop,seval])
 repeat refine sd ?_
 cases sn with
 | true =>
   cases o with
   | none =>
     simp only [Option.isSome,pM,Lb8] at hO
     have zz:=aq2 IK GM;refine Pd [0,1,2,3,4,5] (hO) ?_
     (simp only [Gl,AR,seval])
     repeat refine sd ?_
     have zz:=aq3 Qe @pQ.eq_1 @pQ.eq_2;exact Bg hx [0,1,2,3,4,5] ⟨rfl,rfl,rfl⟩
   | some p =>
     simp only [Option.isSome,pM,Lb8] at hO
     simp only [pQ]
     generalize (fun j=>if (g (pF w 44)).toNat≤j∧j < (g (pF w 44)).toNat + 8 then Jp (fun i=>p.at (8 * (j - (g (pF w 44)).toNat) + i)) 8 else f j)=F at *
     have zz:=aq2 IK GM;refine Pd [0,1,2,3,4,5] (hO) ?_
     (simp only [Gl,AR,seval])
     repeat refine sd ?_
     have zz:=aq3 Qe @pQ.eq_1 @pQ.eq_2;exact Bg hx [0,1,2,3,4,5] ⟨rfl,rfl,rfl⟩
 | false =>
   cases o with
   | none =>
     simp only [Option.isSome,pM,Lb8] at hO
     have zz:=aq2 IK GM;refine Pd [0,1,2,3,4,5] (hO) ?_
     (simp only [Gl,AR,seval])
     repeat refine sd ?_
     have zz:=aq3 Qe @pQ.eq_1 @pQ.eq_2;exact Bg hx [0,1,2,3,4,5,2070] ⟨rfl,rfl,rfl⟩
   | some p =>
     simp only [Option.isSome,pM,Lb8] at hO
     simp only [pQ]
     generalize (fun j=>if (g (pF w 44)).toNat≤j∧j < (g (pF w 44)).toNat + 8 then Jp (fun i=>p.at (8 * (j - (g (pF w 44)).toNat) + i)) 8 else f j)=F at *
     have zz:=aq2 IK GM;refine Pd [0,1,2,3,4,5] (hO) ?_
     (simp only [Gl,AR,seval])
     repeat refine sd ?_
     have zz:=aq3 Qe @pQ.eq_1 @pQ.eq_2;exact Bg hx [0,1,2,3,4,5,2070] ⟨rfl,rfl,rfl⟩
theorem OM {M:Seat} (okA:OkM M) (ok:OkO M) (s:WS) (n:Nat) (hn40:n < 1099511627776) (q:Nat→Dg) (l:List (Dg × Bool)) (f g:Nat→BitVec 64) (pc xt:BitVec 64) (hpc:¬ 8192#64≤pc) (w:BitVec 64) (hw:f pc.toNat=w) (hop:AT w=35) (h2:w >>> 32 &&& 255#64=0#64)
 (ha:(g (pF w 48)).toNat + 4≤8192) (hb:(g (pF w 44)).toNat + 8≤8192) (D:Dg) (hD:Dg.mk' (A6 fun j=>f ((g (pF w 48)).toNat + j))=D) (o:Option Pr) (sn:Bool) (hl:Dv D s.pres=o) (hs:was l D sn) :
 Af M 70 [.ptr 5 [],.ptr 0 []] (AF s (.sl 6 [] 0 n 32) l ++ [(5,mach f g pc false xt),(6,.ar 32 n fun i=>dg (q i))]) 7
  (Q3 .nili (pSS s n l D sn ++ (5,pQ f g pc xt (g (pF w 44)) o) :: pAS n q D sn) (if sn then 7 else 8)):=by
 refine Ac ok.k70 rfl fun x hx=>?_
 have hp:pc.toNat < 8192:=BM
 have a1:=Ai w 52
 have a2:=Ai w 48
 have a3:=Ai w 44
 have hO:=L7 okA ok s n hn40 q l f g pc xt _ _ ha hb o sn (by rw [hD];exact hl) (by rw [hD];exact hs)
 rw [hD] at hO
 clear hD hl hs
 refine es 2000 ?_;(simp only [P3,Qh,IK,hpc,hw,LZ,seval])
 repeat refine sd ?_
 have zz:=@Bb.eq_1;refine Gy (Az ok.toOkV w Aa h2) ?_
 (simp only [Hi,hop,seval])
 repeat refine sd ?_
 cases sn with
 | true =>
   cases o with
   | none =>
     simp only [Option.isSome,pM,Lb8] at hO
     have zz:=aq2 IK GM;refine Pd [0,1,2,3,4,5,6] (hO) ?_
     (simp only [Gl,AR,seval])
     repeat refine sd ?_
     have zz:=aq3 Qe @pQ.eq_1 @pQ.eq_2;exact Bg hx [0,1,2,3,4,5,6] ⟨rfl,rfl,rfl⟩
   | some p =>
     simp only [Option.isSome,pM,Lb8] at hO
     simp only [pQ]
     generalize (fun j=>if (g (pF w 44)).toNat≤j∧j < (g (pF w 44)).toNat + 8 then Jp (fun i=>p.at (8 * (j - (g (pF w 44)).toNat) + i)) 8 else f j)=F at *
     have zz:=aq2 IK GM;refine Pd [0,1,2,3,4,5,6] (hO) ?_
     (simp only [Gl,AR,seval])
     repeat refine sd ?_
     have zz:=aq3 Qe @pQ.eq_1 @pQ.eq_2;exact Bg hx [0,1,2,3,4,5,6] ⟨rfl,rfl,rfl⟩
 | false =>
   cases o with
   | none =>
     simp only [Option.isSome,pM,Lb8] at hO
     have zz:=aq2 IK GM;refine Pd [0,1,2,3,4,5,6] (hO) ?_
     (simp only [Gl,AR,seval])
     repeat refine sd ?_
     have zz:=aq3 Qe @pQ.eq_1 @pQ.eq_2;exact Bg hx [0,1,2,3,4,5,6,2071] ⟨rfl,rfl,rfl⟩
   | some p =>
     simp only [Option.isSome,pM,Lb8] at hO
     simp only [pQ]
     generalize (fun j=>if (g (pF w 44)).toNat≤j∧j < (g (pF w 44)).toNat + 8 then Jp (fun i=>p.at (8 * (j - (g (pF w 44)).toNat) + i)) 8 else f j)=F at *
     have zz:=aq2 IK GM;refine Pd [0,1,2,3,4,5,6] (hO) ?_
     (simp only [Gl,AR,seval])
     repeat refine sd ?_
     have zz:=aq3 Qe @pQ.eq_1 @pQ.eq_2;exact Bg hx [0,1,2,3,4,5,6,2071] ⟨rfl,rfl,rfl⟩
structure SM where
 w:WS
 l:List (Dg × Bool)
 n:Nat
 q:Nat→Dg
 m:Mc
def Nh (s:SM):Hp:=AF s.w .nils s.l ++ [(5,s.m.v)]
def Sh (b:Nat) (s:SM):Hp:=AF s.w (.sl b [] 0 s.n 32) s.l ++ [(5,s.m.v),(b,.ar 32 s.n fun i=>dg (s.q i))]
theorem Ant (a:Nat × V) (l m:Hp):(a :: l) ++ m=a :: (l ++ m):=rfl
theorem Am1 (l:Hp):([]:Hp) ++ l=l:=rfl
def Qg:=(aq8 @Nh.eq_1 @Sh.eq_1 @AF.eq_1 @QI.eq_1 @DO.eq_1 @mach.eq_1 @Ant @Am1)
inductive TrR (M:Seat) (f:Nat) (ex:List V) (r:V) (s s':SM):Prop
 | mach (h:Af M f (.ptr 0 [] :: .ptr 1 [] :: ex) [(0,s.m.v)] 2 (fun v H' k'=>v=r∧H'=[(0,s'.m.v)]∧k'=2)) (hw:s'={ s with m:=s'.m })
 | NN (h0:s.n=0) (h1:s'.n=0) (h:Af M f (.ptr 5 [] :: .ptr 0 [] :: ex) (Nh s) 6 (fun v H' k'=>v=r∧H'=Nh s'∧k'=6))
 | NS (h0:s.n=0) (h1:0 < s'.n) (h:Af M f (.ptr 5 [] :: .ptr 0 [] :: ex) (Nh s) 6 (fun v H' k'=>v=r∧H'=Sh 6 s'∧k'=7))
 | SS (h0:0 < s.n) (h1:0 < s'.n) (h:Af M f (.ptr 5 [] :: .ptr 0 [] :: ex) (Sh 6 s) 7 (fun v H' k'=>v=r∧H'=Sh 6 s'∧k'=7))
 | SN (h0:0 < s.n) (h1:0 < s'.n) (h:Af M f (.ptr 5 [] :: .ptr 0 [] :: ex) (Sh 6 s) 7 (fun v H' k'=>v=r∧H'=Sh 7 s'∧k'=8))
abbrev S7 (M:Seat) (s s':SM):Prop:=TrR M 70 [] .nili s s'∧s'.n≤s.n + 1
theorem B8 {a n:BitVec 64} (h:wi a n=true):a.toNat + n.toNat≤8192:=by
 unfold wi at h
 simp only [Bool.and_eq_true,decide_eq_true_eq,BitVec.le_def,BitVec.toNat_sub] at h
 have e:(8192#64).toNat=8192:=rfl
 rw [e] at h
 omega
end Mv
