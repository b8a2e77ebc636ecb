/- A part. -/
import Derived.Test.YtlfkjfonpacelaaGreatDoorFD
set_option linter.all false
set_option maxRecDepth 20000
set_option maxHeartbeats 4000000
namespace Mv
open Go
abbrev Ky:BitVec 64:=18446744073709551615#64
def pM (f g:Nat→BitVec 64) (pc xt b:BitVec 64):Option Pr→V
 | some p=>mach (fun j=>if b.toNat≤j∧j < b.toNat + 8 then II (fun i=>p.at (8 * (j - b.toNat) + i)) 8 else f j) g pc false xt
 | none=>mach f g pc true Ky
def pSN (w:WS) (l:List (Dg × Bool)) (D:Dg):Bool→Hp
 | true=>AF w .nils l
 | false=>AF w (.sl 6 [] 0 1 32) (CW D true l)
def pAN (D:Dg):Bool→Hp
 | true=>[]
 | false=>[(6,.ar 32 1 fun _=>dg D)]
def pSS (w:WS) (n:Nat) (l:List (Dg × Bool)) (D:Dg):Bool→Hp
 | true=>AF w (.sl 6 [] 0 n 32) l
 | false=>AF w (.sl 7 [] 0 (n + 1) 32) (CW D true l)
def pAS (n:Nat) (q:Nat→Dg) (D:Dg):Bool→Hp
 | true=>[(6,.ar 32 n fun i=>dg (q i))]
 | false=>[(7,.ar 32 (n + 1) fun i=>dg (if i < n then q i else D))]
def Lb8:=(Vy @pAN.eq_1 @pAN.eq_2 @pAS.eq_1 @pAS.eq_2 @pSN.eq_1 @pSN.eq_2 @pSS.eq_1 @pSS.eq_2)
def Qy:=(CC @Laa @ID @Lb8)
def was (l:List (Dg × Bool)) (D:Dg) (b:Bool):Prop:=(b=true∧Dt D l=some true) ∨ (b=false∧(Dt D l=none ∨ Dt D l=some false))
theorem Le {M:Seat} (okA:OkM M) (ok:OkO M) (w:WS) (l:List (Dg × Bool)) (f g:Nat→BitVec 64) (pc xt:BitVec 64) (a b:BitVec 64) (ha:a.toNat + 4≤8192) (hb:b.toNat + 8≤8192) (o:Option Pr) (sn:Bool) (hp:Dt (Dg.mk' (Bb fun j=>f (a.toNat + j))) w.pres=o) (hs:was l (Dg.mk' (Bb fun j=>f (a.toNat + j))) sn) :
 Af M 217 [.ptr 5 [],.ptr 0 [],.int .i64 35,W a,W b] (AF w .nils l ++ [(5,mach f g pc false xt)]) 6
  (Q3 (.bool o.isSome) (pSN w l (Dg.mk' (Bb fun j=>f (a.toNat + j))) sn ++ (5,pM f g pc xt b o) :: pAN (Dg.mk' (Bb fun j=>f (a.toNat + j))) sn) (if sn then 6 else 7)):=by
 refine Ab ok.k217 rfl fun x hx=>?_
 have h1:(decide (a≤8192#64) && decide (4#64≤8192#64 - a))=true:=by
  have:a.toNat≤8192:=Aa
  simp only [Lao,decide_eq_true_eq];omega
 have h2:(decide (b≤8192#64) && decide (8#64≤8192#64 - b))=true:=by
  have:b.toNat≤8192:=Aa
  simp only [Lao,decide_eq_true_eq];omega
 refine es 2000 ?_;(simp only [Ns,NW,Ge,seval])
 refine Ai (Bl ok a 4#64) ?_
 (simp only [h1,LZ,seval])
 refine Ai (Bl ok b 8#64) ?_
 (simp only [h2,LZ,seval])
 have e8:(a + 4#64).toNat=a.toNat + 4:=An5
 rw [e8,Nat.add_sub_cancel_left]
 repeat refine sd ?_
 refine Au ?_
 refine es 2000 ?_
 (simp only [BA,seval])
 repeat refine sd ?_
 refine Er (D3 okA ok (f (a.toNat + 0))) ?_
 (simp only [BA,seval])
 repeat refine sd ?_
 have w1:IntKind.i64.wrap 1=1:=Aj
 rw [w1]
 refine An (σ:=Nat) (fun i=>1≤i∧i≤4) (fun i=>fr 94 [(0,.ptr 5 []),(1,.ptr 0 []),(2,.int .i64 35),(4,W b),(12,W 8#64),(13,.sl 6 [] 0 (8 * i) 1),(43,.sl 5 [Stp.f 0] a.toNat 4 1),(44,.int .i64 4),(45,.int .i64 i)])
  (fun i=>AF w .nils l ++ [(5,mach f g pc false xt),(6,.ar 1 (8 * i) fun j=>B (Bb (fun j=>f (a.toNat + j)) j))]) (fun _=>7) (fun i=>4 - i) 1 Aa ?_ ?_
 ·refine Ak.fr [0,1,2,3,4,5,550] [] hx AQ Aj ?_ ?_
  ·simp only [LY,seval]
  ·simp only [ID,DN,seval]
   intro i hi
   have q1:i / 8=0:=Aa
   have q2:i % 8=i:=Aa
   simp only [Bb,q1,q2,Nat.add_zero]
 ·rintro i ⟨hi1,hi⟩
  refine es 2000 ?_
  by_cases h8:i=4
  ·subst h8
   (simp only [Ge,seval])
   repeat refine sd ?_
   have hP:∀ j,j < 32→(Dg.mk' (Bb fun j=>f (a.toNat + j))).at j=Bb (fun j=>f (a.toNat + j)) j:=fun j hj=>Dg.at_mk' _ _ hj
   generalize Dg.mk' (Bb fun j=>f (a.toNat + j))=D at *
   rcases hs with ⟨rfl,hn⟩ | ⟨rfl,hn⟩
   ·cases o with
    | none =>
      have hG:Af M 328 [.ptr 0 [],dg D] _ _ _:=Hh ok w l D _ hp hn
      simp only [Dh,Ah] at hG
      refine UE [0,1,2,3,4] [0,1,2,3,4] (hG) (by constructor <;> (try simp only [Jj,EZ,LY,seval]) <;> first | exact q1 | (exact fun j hj=>(hP j hj).symm)) (by simp only [Jj,EZ,LX]) ?_
      (simp only [Lbh,Vw,seval])
      have zz:=@mach.eq_1;refine FA [5] (B9 ok.toOkV f g pc false xt Ky) ?_
      (simp only [mach,BA,seval])
      have zz:=F5 Qy @pM.eq_1 @pM.eq_2 @A9.eq_1;exact Bz hx [0,1,2,3,4,5] ⟨rfl,rfl,rfl⟩
    | some p =>
      have hG:Af M 328 [.ptr 0 [],dg D] _ _ _:=Hh ok w l D _ hp hn
      simp only [Dh,Ah] at hG
      refine UE [0,1,2,3,4] [0,1,2,3,4] (hG) (by constructor <;> (try simp only [Jj,EZ,LY,seval]) <;> first | exact q1 | (exact fun j hj=>(hP j hj).symm)) (by simp only [Jj,EZ,LX]) ?_
      (simp only [Lbh,seval])
      refine An (σ:=Nat) (fun i=>i≤8) (fun i=>fr 94 [(0,.ptr 5 []),(4,W b),(16,.sl 7 [] 0 64 1),(77,W 8#64),(78,W (BitVec.ofNat 64 i))])
       (fun i=>AF w .nils l ++ [(5,mach (fun j=>if b.toNat≤j∧j < b.toNat + i then II (fun i=>p.at (8 * (j - b.toNat) + i)) 8 else f j) g pc false xt),(7,A9 p)]) (fun _=>8) (fun i=>8 - i) 0 Aa ?_ ?_
      ·refine Ak.fr [0,1,2,3,4,5,6,199] [] hx AQ Aj ?_ ?_
       ·simp only [LY,seval]
       ·simp only [ID,DN,seval]
        exact fun i _=>(if_neg Aa).symm
      ·intro i hi
       refine es 2000 ?_
       by_cases h4:i=8
       ·subst h4
        (simp only [Ge,seval])
        have zz:=CC Qy @pM.eq_1 @pM.eq_2;exact Bz hx [0,1,2,3,4,5] ⟨rfl,rfl,rfl⟩
       ·have t1:(BitVec.ofNat 64 i).toNat=i:=R1
        have d0:(BitVec.ofNat 64 i < 8#64)=True:=eq_true zq9
        have t2:(8#64 * BitVec.ofNat 64 i).toNat=8 * i:=RQ
        have t3:(b + BitVec.ofNat 64 i).toNat=b.toNat + i:=US
        have t4:BitVec.ofNat 64 i + 1#64=BitVec.ofNat 64 (i + 1):=UV
        (simp only [d0,t2,t3,t4,Ge,seval])
        repeat refine sd ?_
        refine Zh (Dy ok (64 - 8 * i) Aa (fun j=>p.at (8 * i + j))) (by (try simp only [A9,Cm,seval]) <;> first | exact q1 | ((show 8 * i + (64 - 8 * i)≤64;omega))) (by simp only [A9,Ce,LX]) ?_
        (simp only [t2,t3,t4,BA,seval])
        repeat refine sd ?_
        refine ⟨i + 1,by omega,by omega,?_⟩
        refine Ak.fr [0,1,2,3,4,5,6,7] [] hx AQ Aj ?_ ?_
        ·simp only [LY,seval]
        ·simp only [DN,seval]
         intro q hq
         by_cases e:q=b.toNat + i
         ·subst e
          rw [if_pos rfl,if_pos Aa,Nat.add_sub_cancel_left];simp only [W,LY,seval]
         ·rw [if_neg e]
          by_cases e2:b.toNat≤q∧q < b.toNat + i
          ·rw [if_pos Aa,if_pos e2];simp only [W,LY,seval]
          ·rw [if_neg Aa,if_neg e2];simp only [W,LY,seval]
   ·cases o with
    | none =>
      have hG:Af M 328 [.ptr 0 [],dg D] _ _ _:=Hl ok w l D _ hp hn
      simp only [Dh,Ah] at hG
      refine UE [0,1,2,3,4] [0,1,2,3,4] (hG) (by constructor <;> (try simp only [Jj,EZ,LY,seval]) <;> first | exact q1 | (exact fun j hj=>(hP j hj).symm)) (by simp only [Jj,EZ,LX]) ?_
      (simp only [Lbh,Vw,seval])
      have zz:=@mach.eq_1;refine FA [5] (B9 ok.toOkV f g pc false xt Ky) ?_
      (simp only [mach,BA,seval])
      have zz:=F5 Qy @pM.eq_1 @pM.eq_2 @A9.eq_1;exact Bz hx [0,1,2,3,4,5,135] ⟨rfl,rfl,rfl⟩
    | some p =>
      have hG:Af M 328 [.ptr 0 [],dg D] _ _ _:=Hl ok w l D _ hp hn
      simp only [Dh,Ah] at hG
      refine UE [0,1,2,3,4] [0,1,2,3,4] (hG) (by constructor <;> (try simp only [Jj,EZ,LY,seval]) <;> first | exact q1 | (exact fun j hj=>(hP j hj).symm)) (by simp only [Jj,EZ,LX]) ?_
      (simp only [Lbh,seval])
      refine An (σ:=Nat) (fun i=>i≤8) (fun i=>fr 94 [(0,.ptr 5 []),(4,W b),(16,.sl 7 [] 0 64 1),(77,W 8#64),(78,W (BitVec.ofNat 64 i))])
       (fun i=>AF w (.sl 6 [] 0 1 32) (CW D true l) ++ [(5,mach (fun j=>if b.toNat≤j∧j < b.toNat + i then II (fun i=>p.at (8 * (j - b.toNat) + i)) 8 else f j) g pc false xt),(6,.ar 32 1 fun _=>dg D),(7,A9 p)]) (fun _=>8) (fun i=>8 - i) 0 Aa ?_ ?_
      ·refine Ak.fr [0,1,2,3,4,5,135,199] [] hx AQ Aj ?_ ?_
       ·simp only [LY,seval]
       ·simp only [ID,DN,seval]
        exact fun i _=>(if_neg Aa).symm
      ·intro i hi
       refine es 2000 ?_
       by_cases h4:i=8
       ·subst h4
        (simp only [Ge,seval])
        have zz:=CC Qy @pM.eq_1 @pM.eq_2;exact Bz hx [0,1,2,3,4,5,6] ⟨rfl,rfl,rfl⟩
       ·have t1:(BitVec.ofNat 64 i).toNat=i:=R1
        have d0:(BitVec.ofNat 64 i < 8#64)=True:=eq_true zq9
        have t2:(8#64 * BitVec.ofNat 64 i).toNat=8 * i:=RQ
        have t3:(b + BitVec.ofNat 64 i).toNat=b.toNat + i:=US
        have t4:BitVec.ofNat 64 i + 1#64=BitVec.ofNat 64 (i + 1):=UV
        (simp only [d0,t2,t3,t4,Ge,seval])
        repeat refine sd ?_
        refine Zh (Dy ok (64 - 8 * i) Aa (fun j=>p.at (8 * i + j))) (by (try simp only [A9,Cm,seval]) <;> first | exact q1 | ((show 8 * i + (64 - 8 * i)≤64;omega))) (by simp only [A9,Ce,LX]) ?_
        (simp only [t2,t3,t4,BA,seval])
        repeat refine sd ?_
        refine ⟨i + 1,by omega,by omega,?_⟩
        refine Ak.fr [0,1,2,3,4,5,6,7] [] hx AQ Aj ?_ ?_
        ·simp only [LY,seval]
        ·simp only [DN,seval]
         intro q hq
         by_cases e:q=b.toNat + i
         ·subst e
          rw [if_pos rfl,if_pos Aa,Nat.add_sub_cancel_left];simp only [W,LY,seval]
         ·rw [if_neg e]
          by_cases e2:b.toNat≤q∧q < b.toNat + i
          ·rw [if_pos Aa,if_pos e2];simp only [W,LY,seval]
          ·rw [if_neg Aa,if_neg e2];simp only [W,LY,seval]
  ·have d0:((i:Int) < 4)=True:=eq_true Aa
   have w0:IntKind.i64.wrap ((i:Int) + 1)=((i + 1:Nat):Int):=Bw
   have n0:(0:Int)≤(i:Int):=Aa
   (simp only [d0,w0,Ge,seval])
   repeat refine sd ?_
   have zz:=@Ce;refine FA [6] (D4 okA ok (8 * i) Aa (Bb fun j=>f (a.toNat + j)) (f (a.toNat + i))) ?_
   (simp only [BA,w0,seval])
   repeat refine sd ?_
   refine ⟨i + 1,by omega,by omega,by omega,?_⟩
   have e88:8 * (i + 1)=8 * i + 8:=Aa
   rw [e88]
   refine Ak.fr [0,1,2,3,4,5,103] [] hx AQ Aj ?_ ?_
   ·simp only [LY,seval]
   ·simp only [DN,seval]
    intro q hq
    by_cases e:q < 8 * i
    ·rw [if_pos e]
    ·have e1:q / 8=i:=Aa
     have e2:q % 8=q - 8 * i:=Aa
     rw [if_neg e,Bb,e1,e2]
theorem Lb {M:Seat} (okA:OkM M) (ok:OkO M) (w:WS) (n:Nat) (hn40:n < 1099511627776) (q:Nat→Dg) (l:List (Dg × Bool)) (f g:Nat→BitVec 64) (pc xt:BitVec 64) (a b:BitVec 64) (ha:a.toNat + 4≤8192) (hb:b.toNat + 8≤8192) (o:Option Pr) (sn:Bool) (hp:Dt (Dg.mk' (Bb fun j=>f (a.toNat + j))) w.pres=o) (hs:was l (Dg.mk' (Bb fun j=>f (a.toNat + j))) sn) :
 Af M 217 [.ptr 5 [],.ptr 0 [],.int .i64 35,W a,W b] (AF w (.sl 6 [] 0 n 32) l ++ [(5,mach f g pc false xt),(6,.ar 32 n fun i=>dg (q i))]) 7
  (Q3 (.bool o.isSome) (pSS w n l (Dg.mk' (Bb fun j=>f (a.toNat + j))) sn ++ (5,pM f g pc xt b o) :: pAS n q (Dg.mk' (Bb fun j=>f (a.toNat + j))) sn) (if sn then 7 else 8)):=by
 refine Ab ok.k217 rfl fun x hx=>?_
 have h1:(decide (a≤8192#64) && decide (4#64≤8192#64 - a))=true:=by
  have:a.toNat≤8192:=Aa
  simp only [Lao,decide_eq_true_eq];omega
 have h2:(decide (b≤8192#64) && decide (8#64≤8192#64 - b))=true:=by
  have:b.toNat≤8192:=Aa
  simp only [Lao,decide_eq_true_eq];omega
 refine es 2000 ?_;(simp only [Ns,NW,Ge,seval])
 refine Ai (Bl ok a 4#64) ?_
 (simp only [h1,LZ,seval])
 refine Ai (Bl ok b 8#64) ?_
 (simp only [h2,LZ,seval])
 have e8:(a + 4#64).toNat=a.toNat + 4:=An5
 rw [e8,Nat.add_sub_cancel_left]
 repeat refine sd ?_
 refine Au ?_
 refine es 2000 ?_
 (simp only [BA,seval])
 repeat refine sd ?_
 refine Er (D3 okA ok (f (a.toNat + 0))) ?_
 (simp only [BA,seval])
 repeat refine sd ?_
 have w1:IntKind.i64.wrap 1=1:=Aj
 rw [w1]
 refine An (σ:=Nat) (fun i=>1≤i∧i≤4) (fun i=>fr 94 [(0,.ptr 5 []),(1,.ptr 0 []),(2,.int .i64 35),(4,W b),(12,W 8#64),(13,.sl 7 [] 0 (8 * i) 1),(43,.sl 5 [Stp.f 0] a.toNat 4 1),(44,.int .i64 4),(45,.int .i64 i)])
  (fun i=>AF w (.sl 6 [] 0 n 32) l ++ [(5,mach f g pc false xt),(6,.ar 32 n fun i=>dg (q i)),(7,.ar 1 (8 * i) fun j=>B (Bb (fun j=>f (a.toNat + j)) j))]) (fun _=>8) (fun i=>4 - i) 1 Aa ?_ ?_
 ·refine Ak.fr [0,1,2,3,4,5,6,551] [] hx AQ Aj ?_ ?_
  ·simp only [LY,seval]
  ·simp only [ID,DN,seval]
   intro i hi
   have q1:i / 8=0:=Aa
   have q2:i % 8=i:=Aa
   simp only [Bb,q1,q2,Nat.add_zero]
 ·rintro i ⟨hi1,hi⟩
  refine es 2000 ?_
  by_cases h8:i=4
  ·subst h8
   (simp only [Ge,seval])
   repeat refine sd ?_
   have hP:∀ j,j < 32→(Dg.mk' (Bb fun j=>f (a.toNat + j))).at j=Bb (fun j=>f (a.toNat + j)) j:=fun j hj=>Dg.at_mk' _ _ hj
   generalize Dg.mk' (Bb fun j=>f (a.toNat + j))=D at *
   rcases hs with ⟨rfl,hn⟩ | ⟨rfl,hn⟩
   ·cases o with
    | none =>
      have hG:Af M 328 [.ptr 0 [],dg D] _ _ _:=H4 ok w n q l D _ hp hn
      simp only [Dh,Ah] at hG
      refine UE [0,1,2,3,4,6] [0,1,2,3,4,6] (hG) (by constructor <;> (try simp only [Jj,EZ,LY,seval]) <;> first | exact q1 | (exact fun j hj=>(hP j hj).symm)) (by simp only [Jj,EZ,LX]) ?_
      (simp only [Lbh,Vw,seval])
      have zz:=@mach.eq_1;refine FA [5] (B9 ok.toOkV f g pc false xt Ky) ?_
      (simp only [mach,BA,seval])
      have zz:=F5 Qy @pM.eq_1 @pM.eq_2 @A9.eq_1;exact Bz hx [0,1,2,3,4,5,6] ⟨rfl,rfl,rfl⟩
    | some p =>
      have hG:Af M 328 [.ptr 0 [],dg D] _ _ _:=H4 ok w n q l D _ hp hn
      simp only [Dh,Ah] at hG
      refine UE [0,1,2,3,4,6] [0,1,2,3,4,6] (hG) (by constructor <;> (try simp only [Jj,EZ,LY,seval]) <;> first | exact q1 | (exact fun j hj=>(hP j hj).symm)) (by simp only [Jj,EZ,LX]) ?_
      (simp only [Lbh,seval])
      refine An (σ:=Nat) (fun i=>i≤8) (fun i=>fr 94 [(0,.ptr 5 []),(4,W b),(16,.sl 8 [] 0 64 1),(77,W 8#64),(78,W (BitVec.ofNat 64 i))])
       (fun i=>AF w (.sl 6 [] 0 n 32) l ++ [(5,mach (fun j=>if b.toNat≤j∧j < b.toNat + i then II (fun i=>p.at (8 * (j - b.toNat) + i)) 8 else f j) g pc false xt),(6,.ar 32 n fun i=>dg (q i)),(8,A9 p)]) (fun _=>9) (fun i=>8 - i) 0 Aa ?_ ?_
      ·refine Ak.fr [0,1,2,3,4,5,6,7,200] [] hx AQ Aj ?_ ?_
       ·simp only [LY,seval]
       ·simp only [ID,DN,seval]
        exact fun i _=>(if_neg Aa).symm
      ·intro i hi
       refine es 2000 ?_
       by_cases h4:i=8
       ·subst h4
        (simp only [Ge,seval])
        have zz:=CC Qy @pM.eq_1 @pM.eq_2;exact Bz hx [0,1,2,3,4,5,6] ⟨rfl,rfl,rfl⟩
       ·have t1:(BitVec.ofNat 64 i).toNat=i:=R1
        have d0:(BitVec.ofNat 64 i < 8#64)=True:=eq_true zq9
        have t2:(8#64 * BitVec.ofNat 64 i).toNat=8 * i:=RQ
        have t3:(b + BitVec.ofNat 64 i).toNat=b.toNat + i:=US
        have t4:BitVec.ofNat 64 i + 1#64=BitVec.ofNat 64 (i + 1):=UV
        (simp only [d0,t2,t3,t4,Ge,seval])
        repeat refine sd ?_
        refine Zh (Dy ok (64 - 8 * i) Aa (fun j=>p.at (8 * i + j))) (by (try simp only [A9,Cm,seval]) <;> first | exact q1 | ((show 8 * i + (64 - 8 * i)≤64;omega))) (by simp only [A9,Ce,LX]) ?_
        (simp only [t2,t3,t4,BA,seval])
        repeat refine sd ?_
        refine ⟨i + 1,by omega,by omega,?_⟩
        refine Ak.fr [0,1,2,3,4,5,6,7,8] [] hx AQ Aj ?_ ?_
        ·simp only [LY,seval]
        ·simp only [DN,seval]
         intro q hq
         by_cases e:q=b.toNat + i
         ·subst e
          rw [if_pos rfl,if_pos Aa,Nat.add_sub_cancel_left];simp only [W,LY,seval]
         ·rw [if_neg e]
          by_cases e2:b.toNat≤q∧q < b.toNat + i
          ·rw [if_pos Aa,if_pos e2];simp only [W,LY,seval]
          ·rw [if_neg Aa,if_neg e2];simp only [W,LY,seval]
   ·cases o with
    | none =>
      have hG:Af M 328 [.ptr 0 [],dg D] _ _ _:=Hi ok w n hn40 q l D _ hp hn
      simp only [Dh,Ah] at hG
      refine UE [0,1,2,3,4,6] [0,1,2,3,4,6] (hG) (by constructor <;> (try simp only [Jj,EZ,LY,seval]) <;> first | exact q1 | (exact fun j hj=>(hP j hj).symm)) (by simp only [Jj,EZ,LX]) ?_
      (simp only [Lbh,Vw,seval])
      have zz:=@mach.eq_1;refine FA [5] (B9 ok.toOkV f g pc false xt Ky) ?_
      (simp only [mach,BA,seval])
      have zz:=F5 Qy @pM.eq_1 @pM.eq_2 @A9.eq_1;exact Bz hx [0,1,2,3,4,5,6,136] ⟨rfl,rfl,rfl⟩
    | some p =>
      have hG:Af M 328 [.ptr 0 [],dg D] _ _ _:=Hi ok w n hn40 q l D _ hp hn
      simp only [Dh,Ah] at hG
      refine UE [0,1,2,3,4,6] [0,1,2,3,4,6] (hG) (by constructor <;> (try simp only [Jj,EZ,LY,seval]) <;> first | exact q1 | (exact fun j hj=>(hP j hj).symm)) (by simp only [Jj,EZ,LX]) ?_
      (simp only [Lbh,seval])
      refine An (σ:=Nat) (fun i=>i≤8) (fun i=>fr 94 [(0,.ptr 5 []),(4,W b),(16,.sl 8 [] 0 64 1),(77,W 8#64),(78,W (BitVec.ofNat 64 i))])
       (fun i=>AF w (.sl 7 [] 0 (n + 1) 32) (CW D true l) ++ [(5,mach (fun j=>if b.toNat≤j∧j < b.toNat + i then II (fun i=>p.at (8 * (j - b.toNat) + i)) 8 else f j) g pc false xt),(7,.ar 32 (n + 1) fun i=>dg (if i < n then q i else D)),(8,A9 p)]) (fun _=>9) (fun i=>8 - i) 0 Aa ?_ ?_
      ·refine Ak.fr [0,1,2,3,4,5,6,136,200] [] hx AQ Aj ?_ ?_
       ·simp only [LY,seval]
       ·simp only [ID,DN,seval]
        exact fun i _=>(if_neg Aa).symm
      ·intro i hi
       refine es 2000 ?_
       by_cases h4:i=8
       ·subst h4
        (simp only [Ge,seval])
        have zz:=CC Qy @pM.eq_1 @pM.eq_2;exact Bz hx [0,1,2,3,4,5,6,7] ⟨rfl,rfl,rfl⟩
       ·have t1:(BitVec.ofNat 64 i).toNat=i:=R1
        have d0:(BitVec.ofNat 64 i < 8#64)=True:=eq_true zq9
        have t2:(8#64 * BitVec.ofNat 64 i).toNat=8 * i:=RQ
        have t3:(b + BitVec.ofNat 64 i).toNat=b.toNat + i:=US
        have t4:BitVec.ofNat 64 i + 1#64=BitVec.ofNat 64 (i + 1):=UV
        (simp only [d0,t2,t3,t4,Ge,seval])
        repeat refine sd ?_
        refine Zh (Dy ok (64 - 8 * i) Aa (fun j=>p.at (8 * i + j))) (by (try simp only [A9,Cm,seval]) <;> first | exact q1 | ((show 8 * i + (64 - 8 * i)≤64;omega))) (by simp only [A9,Ce,LX]) ?_
        (simp only [t2,t3,t4,BA,seval])
        repeat refine sd ?_
        refine ⟨i + 1,by omega,by omega,?_⟩
        refine Ak.fr [0,1,2,3,4,5,6,7,8] [] hx AQ Aj ?_ ?_
        ·simp only [LY,seval]
        ·simp only [DN,seval]
         intro q hq
         by_cases e:q=b.toNat + i
         ·subst e
          rw [if_pos rfl,if_pos Aa,Nat.add_sub_cancel_left];simp only [W,LY,seval]
         ·rw [if_neg e]
          by_cases e2:b.toNat≤q∧q < b.toNat + i
          ·rw [if_pos Aa,if_pos e2];simp only [W,LY,seval]
          ·rw [if_neg Aa,if_neg e2];simp only [W,LY,seval]
  ·have d0:((i:Int) < 4)=True:=eq_true Aa
   have w0:IntKind.i64.wrap ((i:Int) + 1)=((i + 1:Nat):Int):=Bw
   have n0:(0:Int)≤(i:Int):=Aa
   (simp only [d0,w0,Ge,seval])
   repeat refine sd ?_
   have zz:=@Ce;refine FA [7] (D4 okA ok (8 * i) Aa (Bb fun j=>f (a.toNat + j)) (f (a.toNat + i))) ?_
   (simp only [BA,w0,seval])
   repeat refine sd ?_
   refine ⟨i + 1,by omega,by omega,by omega,?_⟩
   have e88:8 * (i + 1)=8 * i + 8:=Aa
   rw [e88]
   refine Ak.fr [0,1,2,3,4,5,6,104] [] hx AQ Aj ?_ ?_
   ·simp only [LY,seval]
   ·simp only [DN,seval]
    intro q hq
    by_cases e:q < 8 * i
    ·rw [if_pos e]
    ·have e1:q / 8=i:=Aa
     have e2:q % 8=q - 8 * i:=Aa
     rw [if_neg e,Bb,e1,e2]
def pQ (f g:Nat→BitVec 64) (pc xt b:BitVec 64):Option Pr→V
 | some p=>mach (fun j=>if b.toNat≤j∧j < b.toNat + 8 then II (fun i=>p.at (8 * (j - b.toNat) + i)) 8 else f j) g (pc + 1#64) false xt
 | none=>mach f g pc true Ky
theorem IY {M:Seat} (okA:OkM M) (ok:OkO M) (s:WS) (l:List (Dg × Bool)) (f g:Nat→BitVec 64) (pc xt:BitVec 64) (hpc:¬ 8192#64≤pc) (w:BitVec 64) (hw:f pc.toNat=w) (hop:BS w=35) (h2:w >>> 32 &&& 255#64=0#64)
 (ha:(g (pF w 48)).toNat + 4≤8192) (hb:(g (pF w 44)).toNat + 8≤8192) (D:Dg) (hD:Dg.mk' (Bb fun j=>f ((g (pF w 48)).toNat + j))=D) (o:Option Pr) (sn:Bool) (hl:Dt D s.pres=o) (hs:was l D sn) :
 Af M 70 [.ptr 5 [],.ptr 0 []] (AF s .nils l ++ [(5,mach f g pc false xt)]) 6
  (Q3 .nili (pSN s l D sn ++ (5,pQ f g pc xt (g (pF w 44)) o) :: pAN D sn) (if sn then 6 else 7)):=by
 refine Ab ok.k70 rfl fun x hx=>?_
 have hp:pc.toNat < 8192:=Gy
 have a1:=Ao w 52
 have a2:=Ao w 48
 have a3:=Ao w 44
 have hO:=Le okA ok s l f g pc xt _ _ ha hb o sn (by rw [hD];exact hl) (by rw [hD];exact hs)
 rw [hD] at hO
 clear hD hl hs
 refine es 2000 ?_;(simp only [OQ,Qz,ID,hpc,hw,LZ,seval])
 repeat refine sd ?_
 have zz:=@Bn.eq_1;refine Ng (A6 ok.toOkV w Aa h2) ?_
 (simp only [He,hop,seval])
 repeat refine sd ?_
 cases sn with
 | true =>
   cases o with
   | none =>
     simp only [Option.isSome,pM,Lb8] at hO
     have zz:=Bc ID EZ;refine QN [0,1,2,3,4,5] (hO) ?_
     (simp only [Ge,Am,seval])
     repeat refine sd ?_
     have zz:=CC Qy @pQ.eq_1 @pQ.eq_2;exact Bz hx [0,1,2,3,4,5] ⟨rfl,rfl,rfl⟩
   | some p =>
     simp only [Option.isSome,pM,Lb8] at hO
     simp only [pQ]
     generalize (fun j=>if (g (pF w 44)).toNat≤j∧j < (g (pF w 44)).toNat + 8 then II (fun i=>p.at (8 * (j - (g (pF w 44)).toNat) + i)) 8 else f j)=F at *
     have zz:=Bc ID EZ;refine QN [0,1,2,3,4,5] (hO) ?_
     (simp only [Ge,Am,seval])
     repeat refine sd ?_
     have zz:=CC Qy @pQ.eq_1 @pQ.eq_2;exact Bz hx [0,1,2,3,4,5] ⟨rfl,rfl,rfl⟩
 | false =>
   cases o with
   | none =>
     simp only [Option.isSome,pM,Lb8] at hO
     have zz:=Bc ID EZ;refine QN [0,1,2,3,4,5] (hO) ?_
     (simp only [Ge,Am,seval])
     repeat refine sd ?_
     have zz:=CC Qy @pQ.eq_1 @pQ.eq_2;exact Bz hx [0,1,2,3,4,5,2070] ⟨rfl,rfl,rfl⟩
   | some p =>
     simp only [Option.isSome,pM,Lb8] at hO
     simp only [pQ]
     generalize (fun j=>if (g (pF w 44)).toNat≤j∧j < (g (pF w 44)).toNat + 8 then II (fun i=>p.at (8 * (j - (g (pF w 44)).toNat) + i)) 8 else f j)=F at *
     have zz:=Bc ID EZ;refine QN [0,1,2,3,4,5] (hO) ?_
     (simp only [Ge,Am,seval])
     repeat refine sd ?_
     have zz:=CC Qy @pQ.eq_1 @pQ.eq_2;exact Bz hx [0,1,2,3,4,5,2070] ⟨rfl,rfl,rfl⟩
theorem IC {M:Seat} (okA:OkM M) (ok:OkO M) (s:WS) (n:Nat) (hn40:n < 1099511627776) (q:Nat→Dg) (l:List (Dg × Bool)) (f g:Nat→BitVec 64) (pc xt:BitVec 64) (hpc:¬ 8192#64≤pc) (w:BitVec 64) (hw:f pc.toNat=w) (hop:BS w=35) (h2:w >>> 32 &&& 255#64=0#64)
 (ha:(g (pF w 48)).toNat + 4≤8192) (hb:(g (pF w 44)).toNat + 8≤8192) (D:Dg) (hD:Dg.mk' (Bb fun j=>f ((g (pF w 48)).toNat + j))=D) (o:Option Pr) (sn:Bool) (hl:Dt D s.pres=o) (hs:was l D sn) :
 Af M 70 [.ptr 5 [],.ptr 0 []] (AF s (.sl 6 [] 0 n 32) l ++ [(5,mach f g pc false xt),(6,.ar 32 n fun i=>dg (q i))]) 7
  (Q3 .nili (pSS s n l D sn ++ (5,pQ f g pc xt (g (pF w 44)) o) :: pAS n q D sn) (if sn then 7 else 8)):=by
 refine Ab ok.k70 rfl fun x hx=>?_
 have hp:pc.toNat < 8192:=Gy
 have a1:=Ao w 52
 have a2:=Ao w 48
 have a3:=Ao w 44
 have hO:=Lb okA ok s n hn40 q l f g pc xt _ _ ha hb o sn (by rw [hD];exact hl) (by rw [hD];exact hs)
 rw [hD] at hO
 clear hD hl hs
 refine es 2000 ?_;(simp only [OQ,Qz,ID,hpc,hw,LZ,seval])
 repeat refine sd ?_
 have zz:=@Bn.eq_1;refine Ng (A6 ok.toOkV w Aa h2) ?_
 (simp only [He,hop,seval])
 repeat refine sd ?_
 cases sn with
 | true =>
   cases o with
   | none =>
     simp only [Option.isSome,pM,Lb8] at hO
     have zz:=Bc ID EZ;refine QN [0,1,2,3,4,5,6] (hO) ?_
     (simp only [Ge,Am,seval])
     repeat refine sd ?_
     have zz:=CC Qy @pQ.eq_1 @pQ.eq_2;exact Bz hx [0,1,2,3,4,5,6] ⟨rfl,rfl,rfl⟩
   | some p =>
     simp only [Option.isSome,pM,Lb8] at hO
     simp only [pQ]
     generalize (fun j=>if (g (pF w 44)).toNat≤j∧j < (g (pF w 44)).toNat + 8 then II (fun i=>p.at (8 * (j - (g (pF w 44)).toNat) + i)) 8 else f j)=F at *
     have zz:=Bc ID EZ;refine QN [0,1,2,3,4,5,6] (hO) ?_
     (simp only [Ge,Am,seval])
     repeat refine sd ?_
     have zz:=CC Qy @pQ.eq_1 @pQ.eq_2;exact Bz hx [0,1,2,3,4,5,6] ⟨rfl,rfl,rfl⟩
 | false =>
   cases o with
   | none =>
     simp only [Option.isSome,pM,Lb8] at hO
     have zz:=Bc ID EZ;refine QN [0,1,2,3,4,5,6] (hO) ?_
     (simp only [Ge,Am,seval])
     repeat refine sd ?_
     have zz:=CC Qy @pQ.eq_1 @pQ.eq_2;exact Bz hx [0,1,2,3,4,5,6,2071] ⟨rfl,rfl,rfl⟩
   | some p =>
     simp only [Option.isSome,pM,Lb8] at hO
     simp only [pQ]
     generalize (fun j=>if (g (pF w 44)).toNat≤j∧j < (g (pF w 44)).toNat + 8 then II (fun i=>p.at (8 * (j - (g (pF w 44)).toNat) + i)) 8 else f j)=F at *
     have zz:=Bc ID EZ;refine QN [0,1,2,3,4,5,6] (hO) ?_
     (simp only [Ge,Am,seval])
     repeat refine sd ?_
     have zz:=CC Qy @pQ.eq_1 @pQ.eq_2;exact Bz hx [0,1,2,3,4,5,6,2071] ⟨rfl,rfl,rfl⟩
structure SM where
 w:WS
 l:List (Dg × Bool)
 n:Nat
 q:Nat→Dg
 m:Mc
def Nh (s:SM):Hp:=AF s.w .nils s.l ++ [(5,s.m.v)]
def Sh (b:Nat) (s:SM):Hp:=AF s.w (.sl b [] 0 s.n 32) s.l ++ [(5,s.m.v),(b,.ar 32 s.n fun i=>dg (s.q i))]
theorem Lt (a:Nat × V) (l m:Hp):(a :: l) ++ m=a :: (l ++ m):=rfl
theorem Li (l:Hp):([]:Hp) ++ l=l:=rfl
def HV:=(Vy @Nh.eq_1 @Sh.eq_1 @AF.eq_1 @I9.eq_1 @Aw.eq_1 @mach.eq_1 @Lt @Li)
inductive TrR (M:Seat) (f:Nat) (ex:List V) (r:V) (s s':SM):Prop
 | mach (h:Af M f (.ptr 0 [] :: .ptr 1 [] :: ex) [(0,s.m.v)] 2 (fun v H' k'=>v=r∧H'=[(0,s'.m.v)]∧k'=2)) (hw:s'={ s with m:=s'.m })
 | NN (h0:s.n=0) (h1:s'.n=0) (h:Af M f (.ptr 5 [] :: .ptr 0 [] :: ex) (Nh s) 6 (fun v H' k'=>v=r∧H'=Nh s'∧k'=6))
 | NS (h0:s.n=0) (h1:0 < s'.n) (h:Af M f (.ptr 5 [] :: .ptr 0 [] :: ex) (Nh s) 6 (fun v H' k'=>v=r∧H'=Sh 6 s'∧k'=7))
 | SS (h0:0 < s.n) (h1:0 < s'.n) (h:Af M f (.ptr 5 [] :: .ptr 0 [] :: ex) (Sh 6 s) 7 (fun v H' k'=>v=r∧H'=Sh 6 s'∧k'=7))
 | SN (h0:0 < s.n) (h1:0 < s'.n) (h:Af M f (.ptr 5 [] :: .ptr 0 [] :: ex) (Sh 6 s) 7 (fun v H' k'=>v=r∧H'=Sh 7 s'∧k'=8))
abbrev IX (M:Seat) (s s':SM):Prop:=TrR M 70 [] .nili s s'∧s'.n≤s.n + 1
theorem DO {a n:BitVec 64} (h:wi a n=true):a.toNat + n.toNat≤8192:=by
 unfold wi at h
 simp only [Bool.and_eq_true,decide_eq_true_eq,BitVec.le_def,BitVec.toNat_sub] at h
 have e:(8192#64).toNat=8192:=rfl
 rw [e] at h
 omega
theorem ZN {M:Seat} (okA:OkM M) (ok:OkO M) (okP:OkP M) (s:SM) (hs:s.n < 1099511627776):∃ s',IX M s s':=by
 obtain ⟨w,l,n,q,m⟩:=s
 by_cases ha:Pc m
 ·obtain ⟨f,g,pc,hl,xt⟩:=m
  obtain ⟨h1,hpc,h2,ho⟩:=ha
  dsimp only at h1 hpc h2 ho hs
  subst h1
  rcases ho with ⟨hop,hw⟩ | ⟨hop,hw⟩
  ·simp only [Bool.and_eq_true] at hw
   have ha:=DO hw.1
   have hb:=DO hw.2
   cases n with
   | zero=>exact ⟨⟨_,l,0,q,⟨_,g,_,false,xt⟩⟩,.intro (.NN rfl rfl (G6 okA ok w l f g pc xt hpc _ rfl hop h2 ha hb)) B1⟩
   | succ n=>exact ⟨⟨_,l,n + 1,q,⟨_,g,_,false,xt⟩⟩,.intro (.SS (Nat.succ_pos _) (Nat.succ_pos _) (FJ (n + 1) q okA ok w l f g pc xt hpc _ rfl hop h2 ha hb)) B1⟩
  ·simp only [Bool.and_eq_true] at hw
   have ha:=DO hw.1
   have hb:=DO hw.2
   obtain ⟨D,hD⟩:∃ D,Dg.mk' (Bb fun j=>f ((g (pF (f pc.toNat) 48)).toNat + j))=D:=⟨_,rfl⟩
   obtain ⟨sn,hs'⟩:∃ sn,was l D sn:=by
    cases hc:Dt D l with
    | none=>exact ⟨false,.inr ⟨rfl,.inl hc⟩⟩
    | some b => cases b with
      | false=>exact ⟨false,.inr ⟨rfl,.inr hc⟩⟩
      | true=>exact ⟨true,.inl ⟨rfl,hc⟩⟩
   obtain ⟨m',hm⟩:∃ m':Mc,pQ f g pc xt (g (pF (f pc.toNat) 44)) (Dt D w.pres)=m'.v:=by
    cases Dt D w.pres <;> exact ⟨⟨_,_,_,_,_⟩,rfl⟩
   cases n with
   | zero =>
     have h:=IY okA ok w l f g pc xt hpc _ rfl hop h2 ha hb D hD _ sn rfl hs'
     rw [hm] at h
     cases sn with
     | true=>exact ⟨⟨w,l,0,q,m'⟩,.intro (.NN rfl rfl h) B1⟩
     | false=>exact ⟨⟨w,_,1,fun _=>D,m'⟩,.intro (.NS rfl Nat.one_pos h) B1⟩
   | succ n =>
     have h:=IC okA ok w (n + 1) hs q l f g pc xt hpc _ rfl hop h2 ha hb D hD _ sn rfl hs'
     rw [hm] at h
     cases sn with
     | true=>exact ⟨⟨w,l,n + 1,q,m'⟩,.intro (.SS (Nat.succ_pos _) (Nat.succ_pos _) h) B1⟩
     | false=>exact ⟨⟨w,_,n + 1 + 1,_,m'⟩,.intro (.SN (Nat.succ_pos _) (Nat.succ_pos _) h) B1⟩
 ·obtain ⟨m',hm⟩:=W4 ok okP m ha
  exact ⟨⟨w,l,n,q,m'⟩,.mach hm rfl,Nat.le_succ _⟩
end Mv
