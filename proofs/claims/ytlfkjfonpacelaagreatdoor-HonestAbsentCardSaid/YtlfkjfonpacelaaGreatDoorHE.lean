/- A part. -/
import Derived.Test.YtlfkjfonpacelaaGreatDoorHD
set_option linter.all false
set_option maxRecDepth 20000
set_option maxHeartbeats 4000000
namespace Mv
open Go
abbrev JH:BitVec 64:=18446744073709551615#64
def pM (f g:Nat→BitVec 64) (pc xt b:BitVec 64):Option Pr→V
 | some p=>mach (fun j=>if b.toNat≤j∧j < b.toNat + 8 then I8 (fun i=>p.at (8 * (j - b.toNat) + i)) 8 else f j) g pc false xt
 | none=>mach f g pc true JH
def pSN (w:WS) (l:List (Dg × Bool)) (D:Dg):Bool→Hp
 | true=>AK w .nils l
 | false=>AK w (.sl 6 [] 0 1 32) (CV D true l)
def pAN (D:Dg):Bool→Hp
 | true=>[]
 | false=>[(6,.ar 32 1 fun _=>dg D)]
def pSS (w:WS) (n:Nat) (l:List (Dg × Bool)) (D:Dg):Bool→Hp
 | true=>AK w (.sl 6 [] 0 n 32) l
 | false=>AK w (.sl 7 [] 0 (n + 1) 32) (CV D true l)
def pAS (n:Nat) (q:Nat→Dg) (D:Dg):Bool→Hp
 | true=>[(6,.ar 32 n fun i=>dg (q i))]
 | false=>[(7,.ar 32 (n + 1) fun i=>dg (if i < n then q i else D))]
def Lb8:=(W7 @pAN.eq_1 @pAN.eq_2 @pAS.eq_1 @pAS.eq_2 @pSN.eq_1 @pSN.eq_2 @pSS.eq_1 @pSS.eq_2)
def PY:=(CX @Laa @IM @Lb8)
def was (l:List (Dg × Bool)) (D:Dg) (b:Bool):Prop:=(b=true∧DM D l=some true) ∨ (b=false∧(DM D l=none ∨ DM D l=some false))
theorem Lm {M:Seat} (okA:OkM M) (ok:OkO M) (w:WS) (l:List (Dg × Bool)) (f g:Nat→BitVec 64) (pc xt:BitVec 64) (a b:BitVec 64) (ha:a.toNat + 4≤8192) (hb:b.toNat + 8≤8192) (o:Option Pr) (sn:Bool) (hp:DM (Dg.mk' (AW fun j=>f (a.toNat + j))) w.pres=o) (hs:was l (Dg.mk' (AW fun j=>f (a.toNat + j))) sn) :
 Ae M 217 [.ptr 5 [],.ptr 0 [],.int .i64 35,W a,W b] (AK w .nils l ++ [(5,mach f g pc false xt)]) 6
  (Q3 (.bool o.isSome) (pSN w l (Dg.mk' (AW fun j=>f (a.toNat + j))) sn ++ (5,pM f g pc xt b o) :: pAN (Dg.mk' (AW fun j=>f (a.toNat + j))) sn) (if sn then 6 else 7)):=by
 refine Ab ok.k217 rfl fun x hx=>?_
 have h1:(decide (a≤8192#64) && decide (4#64≤8192#64 - a))=true:=by
  have:a.toNat≤8192:=Aa
  simp only [Lao,decide_eq_true_eq];omega
 have h2:(decide (b≤8192#64) && decide (8#64≤8192#64 - b))=true:=by
  have:b.toNat≤8192:=Aa
  simp only [Lao,decide_eq_true_eq];omega
 refine es 2000 ?_;(simp only [NG,N5,FU,seval])
 refine Al (Bf ok a 4#64) ?_
 (simp only [h1,LZ,seval])
 refine Al (Bf ok b 8#64) ?_
 (simp only [h2,LZ,seval])
 have e8:(a + 4#64).toNat=a.toNat + 4:=Amy
 rw [e8,Nat.add_sub_cancel_left]
 repeat refine sd ?_
 refine Aj ?_
 refine es 2000 ?_
 (simp only [B7,seval])
 repeat refine sd ?_
 refine DG (Do okA ok (f (a.toNat + 0))) ?_
 (simp only [B7,seval])
 repeat refine sd ?_
 have w1:IntKind.i64.wrap 1=1:=Am
 rw [w1]
 refine An (σ:=Nat) (fun i=>1≤i∧i≤4) (fun i=>fr 94 [(0,.ptr 5 []),(1,.ptr 0 []),(2,.int .i64 35),(4,W b),(12,W 8#64),(13,.sl 6 [] 0 (8 * i) 1),(43,.sl 5 [Stp.f 0] a.toNat 4 1),(44,.int .i64 4),(45,.int .i64 i)])
  (fun i=>AK w .nils l ++ [(5,mach f g pc false xt),(6,.ar 1 (8 * i) fun j=>B (AW (fun j=>f (a.toNat + j)) j))]) (fun _=>7) (fun i=>4 - i) 1 Aa ?_ ?_
 ·refine Ao.fr [0,1,2,3,4,5,550] [] hx AX Am ?_ ?_
  ·simp only [LY,seval]
  ·simp only [IM,Ez,seval]
   intro i hi
   have q1:i / 8=0:=Aa
   have q2:i % 8=i:=Aa
   simp only [AW,q1,q2,Nat.add_zero]
 ·rintro i ⟨hi1,hi⟩
  refine es 2000 ?_
  by_cases h8:i=4
  ·subst h8
   (simp only [FU,seval])
   repeat refine sd ?_
   have hP:∀ j,j < 32→(Dg.mk' (AW fun j=>f (a.toNat + j))).at j=AW (fun j=>f (a.toNat + j)) j:=fun j hj=>Dg.at_mk' _ _ hj
   generalize Dg.mk' (AW fun j=>f (a.toNat + j))=D at *
   rcases hs with ⟨rfl,hn⟩ | ⟨rfl,hn⟩
   ·cases o with
    | none =>
      have hG:Ae M 328 [.ptr 0 [],dg D] _ _ _:=HG ok w l D _ hp hn
      simp only [D9,Ag] at hG
      refine R6 [0,1,2,3,4] [0,1,2,3,4] (hG) (by constructor <;> (try simp only [IQ,Gj,LY,seval]) <;> first | exact q1 | (exact fun j hj=>(hP j hj).symm)) (by simp only [IQ,Gj,LX]) ?_
      (simp only [Lbh,YA,seval])
      have zz:=@mach.eq_1;refine G2 [5] (B9 ok.toOkV f g pc false xt JH) ?_
      (simp only [mach,B7,seval])
      have zz:=EH PY @pM.eq_1 @pM.eq_2 @AF.eq_1;exact Bu hx [0,1,2,3,4,5] ⟨rfl,rfl,rfl⟩
    | some p =>
      have hG:Ae M 328 [.ptr 0 [],dg D] _ _ _:=HG ok w l D _ hp hn
      simp only [D9,Ag] at hG
      refine R6 [0,1,2,3,4] [0,1,2,3,4] (hG) (by constructor <;> (try simp only [IQ,Gj,LY,seval]) <;> first | exact q1 | (exact fun j hj=>(hP j hj).symm)) (by simp only [IQ,Gj,LX]) ?_
      (simp only [Lbh,seval])
      refine An (σ:=Nat) (fun i=>i≤8) (fun i=>fr 94 [(0,.ptr 5 []),(4,W b),(16,.sl 7 [] 0 64 1),(77,W 8#64),(78,W (BitVec.ofNat 64 i))])
       (fun i=>AK w .nils l ++ [(5,mach (fun j=>if b.toNat≤j∧j < b.toNat + i then I8 (fun i=>p.at (8 * (j - b.toNat) + i)) 8 else f j) g pc false xt),(7,AF p)]) (fun _=>8) (fun i=>8 - i) 0 Aa ?_ ?_
      ·refine Ao.fr [0,1,2,3,4,5,6,199] [] hx AX Am ?_ ?_
       ·simp only [LY,seval]
       ·simp only [IM,Ez,seval]
        exact fun i _=>(if_neg Aa).symm
      ·intro i hi
       refine es 2000 ?_
       by_cases h4:i=8
       ·subst h4
        (simp only [FU,seval])
        have zz:=CX PY @pM.eq_1 @pM.eq_2;exact Bu hx [0,1,2,3,4,5] ⟨rfl,rfl,rfl⟩
       ·have t1:(BitVec.ofNat 64 i).toNat=i:=RN
        have d0:(BitVec.ofNat 64 i < 8#64)=True:=eq_true Aaq
        have t2:(8#64 * BitVec.ofNat 64 i).toNat=8 * i:=Re
        have t3:(b + BitVec.ofNat 64 i).toNat=b.toNat + i:=Ux
        have t4:BitVec.ofNat 64 i + 1#64=BitVec.ofNat 64 (i + 1):=UP
        (simp only [d0,t2,t3,t4,FU,seval])
        repeat refine sd ?_
        refine YF (Du ok (64 - 8 * i) Aa (fun j=>p.at (8 * i + j))) (by (try simp only [AF,CB,seval]) <;> first | exact q1 | ((show 8 * i + (64 - 8 * i)≤64;omega))) (by simp only [AF,Cn,LX]) ?_
        (simp only [t2,t3,t4,B7,seval])
        repeat refine sd ?_
        refine ⟨i + 1,by omega,by omega,?_⟩
        refine Ao.fr [0,1,2,3,4,5,6,7] [] hx AX Am ?_ ?_
        ·simp only [LY,seval]
        ·simp only [Ez,seval]
         intro q hq
         by_cases e:q=b.toNat + i
         ·subst e
          rw [if_pos rfl,if_pos Aa,Nat.add_sub_cancel_left];simp only [W,LY,seval]
         ·rw [if_neg e]
          by_cases e2:b.toNat≤q∧q < b.toNat + i
          ·rw [if_pos Aa,if_pos e2];simp only [W,LY,seval]
          ·rw [if_neg Aa,if_neg e2];simp only [W,LY,seval]
   ·cases o with
    | none =>
      have hG:Ae M 328 [.ptr 0 [],dg D] _ _ _:=GU ok w l D _ hp hn
      simp only [D9,Ag] at hG
      refine R6 [0,1,2,3,4] [0,1,2,3,4] (hG) (by constructor <;> (try simp only [IQ,Gj,LY,seval]) <;> first | exact q1 | (exact fun j hj=>(hP j hj).symm)) (by simp only [IQ,Gj,LX]) ?_
      (simp only [Lbh,YA,seval])
      have zz:=@mach.eq_1;refine G2 [5] (B9 ok.toOkV f g pc false xt JH) ?_
      (simp only [mach,B7,seval])
      have zz:=EH PY @pM.eq_1 @pM.eq_2 @AF.eq_1;exact Bu hx [0,1,2,3,4,5,135] ⟨rfl,rfl,rfl⟩
    | some p =>
      have hG:Ae M 328 [.ptr 0 [],dg D] _ _ _:=GU ok w l D _ hp hn
      simp only [D9,Ag] at hG
      refine R6 [0,1,2,3,4] [0,1,2,3,4] (hG) (by constructor <;> (try simp only [IQ,Gj,LY,seval]) <;> first | exact q1 | (exact fun j hj=>(hP j hj).symm)) (by simp only [IQ,Gj,LX]) ?_
      (simp only [Lbh,seval])
      refine An (σ:=Nat) (fun i=>i≤8) (fun i=>fr 94 [(0,.ptr 5 []),(4,W b),(16,.sl 7 [] 0 64 1),(77,W 8#64),(78,W (BitVec.ofNat 64 i))])
       (fun i=>AK w (.sl 6 [] 0 1 32) (CV D true l) ++ [(5,mach (fun j=>if b.toNat≤j∧j < b.toNat + i then I8 (fun i=>p.at (8 * (j - b.toNat) + i)) 8 else f j) g pc false xt),(6,.ar 32 1 fun _=>dg D),(7,AF p)]) (fun _=>8) (fun i=>8 - i) 0 Aa ?_ ?_
      ·refine Ao.fr [0,1,2,3,4,5,135,199] [] hx AX Am ?_ ?_
       ·simp only [LY,seval]
       ·simp only [IM,Ez,seval]
        exact fun i _=>(if_neg Aa).symm
      ·intro i hi
       refine es 2000 ?_
       by_cases h4:i=8
       ·subst h4
        (simp only [FU,seval])
        have zz:=CX PY @pM.eq_1 @pM.eq_2;exact Bu hx [0,1,2,3,4,5,6] ⟨rfl,rfl,rfl⟩
       ·have t1:(BitVec.ofNat 64 i).toNat=i:=RN
        have d0:(BitVec.ofNat 64 i < 8#64)=True:=eq_true Aaq
        have t2:(8#64 * BitVec.ofNat 64 i).toNat=8 * i:=Re
        have t3:(b + BitVec.ofNat 64 i).toNat=b.toNat + i:=Ux
        have t4:BitVec.ofNat 64 i + 1#64=BitVec.ofNat 64 (i + 1):=UP
        (simp only [d0,t2,t3,t4,FU,seval])
        repeat refine sd ?_
        refine YF (Du ok (64 - 8 * i) Aa (fun j=>p.at (8 * i + j))) (by (try simp only [AF,CB,seval]) <;> first | exact q1 | ((show 8 * i + (64 - 8 * i)≤64;omega))) (by simp only [AF,Cn,LX]) ?_
        (simp only [t2,t3,t4,B7,seval])
        repeat refine sd ?_
        refine ⟨i + 1,by omega,by omega,?_⟩
        refine Ao.fr [0,1,2,3,4,5,6,7] [] hx AX Am ?_ ?_
        ·simp only [LY,seval]
        ·simp only [Ez,seval]
         intro q hq
         by_cases e:q=b.toNat + i
         ·subst e
          rw [if_pos rfl,if_pos Aa,Nat.add_sub_cancel_left];simp only [W,LY,seval]
         ·rw [if_neg e]
          by_cases e2:b.toNat≤q∧q < b.toNat + i
          ·rw [if_pos Aa,if_pos e2];simp only [W,LY,seval]
          ·rw [if_neg Aa,if_neg e2];simp only [W,LY,seval]
  ·have d0:((i:Int) < 4)=True:=eq_true Aa
   have w0:IntKind.i64.wrap ((i:Int) + 1)=((i + 1:Nat):Int):=Br
   have n0:(0:Int)≤(i:Int):=Aa
   (simp only [d0,w0,FU,seval])
   repeat refine sd ?_
   have zz:=@Cn;refine G2 [6] (Dv okA ok (8 * i) Aa (AW fun j=>f (a.toNat + j)) (f (a.toNat + i))) ?_
   (simp only [B7,w0,seval])
   repeat refine sd ?_
   refine ⟨i + 1,by omega,by omega,by omega,?_⟩
   have e88:8 * (i + 1)=8 * i + 8:=Aa
   rw [e88]
   refine Ao.fr [0,1,2,3,4,5,103] [] hx AX Am ?_ ?_
   ·simp only [LY,seval]
   ·simp only [Ez,seval]
    intro q hq
    by_cases e:q < 8 * i
    ·rw [if_pos e]
    ·have e1:q / 8=i:=Aa
     have e2:q % 8=q - 8 * i:=Aa
     rw [if_neg e,AW,e1,e2]
theorem La {M:Seat} (okA:OkM M) (ok:OkO M) (w:WS) (n:Nat) (hn40:n < 1099511627776) (q:Nat→Dg) (l:List (Dg × Bool)) (f g:Nat→BitVec 64) (pc xt:BitVec 64) (a b:BitVec 64) (ha:a.toNat + 4≤8192) (hb:b.toNat + 8≤8192) (o:Option Pr) (sn:Bool) (hp:DM (Dg.mk' (AW fun j=>f (a.toNat + j))) w.pres=o) (hs:was l (Dg.mk' (AW fun j=>f (a.toNat + j))) sn) :
 Ae M 217 [.ptr 5 [],.ptr 0 [],.int .i64 35,W a,W b] (AK w (.sl 6 [] 0 n 32) l ++ [(5,mach f g pc false xt),(6,.ar 32 n fun i=>dg (q i))]) 7
  (Q3 (.bool o.isSome) (pSS w n l (Dg.mk' (AW fun j=>f (a.toNat + j))) sn ++ (5,pM f g pc xt b o) :: pAS n q (Dg.mk' (AW fun j=>f (a.toNat + j))) sn) (if sn then 7 else 8)):=by
 refine Ab ok.k217 rfl fun x hx=>?_
 have h1:(decide (a≤8192#64) && decide (4#64≤8192#64 - a))=true:=by
  have:a.toNat≤8192:=Aa
  simp only [Lao,decide_eq_true_eq];omega
 have h2:(decide (b≤8192#64) && decide (8#64≤8192#64 - b))=true:=by
  have:b.toNat≤8192:=Aa
  simp only [Lao,decide_eq_true_eq];omega
 refine es 2000 ?_;(simp only [NG,N5,FU,seval])
 refine Al (Bf ok a 4#64) ?_
 (simp only [h1,LZ,seval])
 refine Al (Bf ok b 8#64) ?_
 (simp only [h2,LZ,seval])
 have e8:(a + 4#64).toNat=a.toNat + 4:=Amy
 rw [e8,Nat.add_sub_cancel_left]
 repeat refine sd ?_
 refine Aj ?_
 refine es 2000 ?_
 (simp only [B7,seval])
 repeat refine sd ?_
 refine DG (Do okA ok (f (a.toNat + 0))) ?_
 (simp only [B7,seval])
 repeat refine sd ?_
 have w1:IntKind.i64.wrap 1=1:=Am
 rw [w1]
 refine An (σ:=Nat) (fun i=>1≤i∧i≤4) (fun i=>fr 94 [(0,.ptr 5 []),(1,.ptr 0 []),(2,.int .i64 35),(4,W b),(12,W 8#64),(13,.sl 7 [] 0 (8 * i) 1),(43,.sl 5 [Stp.f 0] a.toNat 4 1),(44,.int .i64 4),(45,.int .i64 i)])
  (fun i=>AK w (.sl 6 [] 0 n 32) l ++ [(5,mach f g pc false xt),(6,.ar 32 n fun i=>dg (q i)),(7,.ar 1 (8 * i) fun j=>B (AW (fun j=>f (a.toNat + j)) j))]) (fun _=>8) (fun i=>4 - i) 1 Aa ?_ ?_
 ·refine Ao.fr [0,1,2,3,4,5,6,551] [] hx AX Am ?_ ?_
  ·simp only [LY,seval]
  ·simp only [IM,Ez,seval]
   intro i hi
   have q1:i / 8=0:=Aa
   have q2:i % 8=i:=Aa
   simp only [AW,q1,q2,Nat.add_zero]
 ·rintro i ⟨hi1,hi⟩
  refine es 2000 ?_
  by_cases h8:i=4
  ·subst h8
   (simp only [FU,seval])
   repeat refine sd ?_
   have hP:∀ j,j < 32→(Dg.mk' (AW fun j=>f (a.toNat + j))).at j=AW (fun j=>f (a.toNat + j)) j:=fun j hj=>Dg.at_mk' _ _ hj
   generalize Dg.mk' (AW fun j=>f (a.toNat + j))=D at *
   rcases hs with ⟨rfl,hn⟩ | ⟨rfl,hn⟩
   ·cases o with
    | none =>
      have hG:Ae M 328 [.ptr 0 [],dg D] _ _ _:=Hi ok w n q l D _ hp hn
      simp only [D9,Ag] at hG
      refine R6 [0,1,2,3,4,6] [0,1,2,3,4,6] (hG) (by constructor <;> (try simp only [IQ,Gj,LY,seval]) <;> first | exact q1 | (exact fun j hj=>(hP j hj).symm)) (by simp only [IQ,Gj,LX]) ?_
      (simp only [Lbh,YA,seval])
      have zz:=@mach.eq_1;refine G2 [5] (B9 ok.toOkV f g pc false xt JH) ?_
      (simp only [mach,B7,seval])
      have zz:=EH PY @pM.eq_1 @pM.eq_2 @AF.eq_1;exact Bu hx [0,1,2,3,4,5,6] ⟨rfl,rfl,rfl⟩
    | some p =>
      have hG:Ae M 328 [.ptr 0 [],dg D] _ _ _:=Hi ok w n q l D _ hp hn
      simp only [D9,Ag] at hG
      refine R6 [0,1,2,3,4,6] [0,1,2,3,4,6] (hG) (by constructor <;> (try simp only [IQ,Gj,LY,seval]) <;> first | exact q1 | (exact fun j hj=>(hP j hj).symm)) (by simp only [IQ,Gj,LX]) ?_
      (simp only [Lbh,seval])
      refine An (σ:=Nat) (fun i=>i≤8) (fun i=>fr 94 [(0,.ptr 5 []),(4,W b),(16,.sl 8 [] 0 64 1),(77,W 8#64),(78,W (BitVec.ofNat 64 i))])
       (fun i=>AK w (.sl 6 [] 0 n 32) l ++ [(5,mach (fun j=>if b.toNat≤j∧j < b.toNat + i then I8 (fun i=>p.at (8 * (j - b.toNat) + i)) 8 else f j) g pc false xt),(6,.ar 32 n fun i=>dg (q i)),(8,AF p)]) (fun _=>9) (fun i=>8 - i) 0 Aa ?_ ?_
      ·refine Ao.fr [0,1,2,3,4,5,6,7,200] [] hx AX Am ?_ ?_
       ·simp only [LY,seval]
       ·simp only [IM,Ez,seval]
        exact fun i _=>(if_neg Aa).symm
      ·intro i hi
       refine es 2000 ?_
       by_cases h4:i=8
       ·subst h4
        (simp only [FU,seval])
        have zz:=CX PY @pM.eq_1 @pM.eq_2;exact Bu hx [0,1,2,3,4,5,6] ⟨rfl,rfl,rfl⟩
       ·have t1:(BitVec.ofNat 64 i).toNat=i:=RN
        have d0:(BitVec.ofNat 64 i < 8#64)=True:=eq_true Aaq
        have t2:(8#64 * BitVec.ofNat 64 i).toNat=8 * i:=Re
        have t3:(b + BitVec.ofNat 64 i).toNat=b.toNat + i:=Ux
        have t4:BitVec.ofNat 64 i + 1#64=BitVec.ofNat 64 (i + 1):=UP
        (simp only [d0,t2,t3,t4,FU,seval])
        repeat refine sd ?_
        refine YF (Du ok (64 - 8 * i) Aa (fun j=>p.at (8 * i + j))) (by (try simp only [AF,CB,seval]) <;> first | exact q1 | ((show 8 * i + (64 - 8 * i)≤64;omega))) (by simp only [AF,Cn,LX]) ?_
        (simp only [t2,t3,t4,B7,seval])
        repeat refine sd ?_
        refine ⟨i + 1,by omega,by omega,?_⟩
        refine Ao.fr [0,1,2,3,4,5,6,7,8] [] hx AX Am ?_ ?_
        ·simp only [LY,seval]
        ·simp only [Ez,seval]
         intro q hq
         by_cases e:q=b.toNat + i
         ·subst e
          rw [if_pos rfl,if_pos Aa,Nat.add_sub_cancel_left];simp only [W,LY,seval]
         ·rw [if_neg e]
          by_cases e2:b.toNat≤q∧q < b.toNat + i
          ·rw [if_pos Aa,if_pos e2];simp only [W,LY,seval]
          ·rw [if_neg Aa,if_neg e2];simp only [W,LY,seval]
   ·cases o with
    | none =>
      have hG:Ae M 328 [.ptr 0 [],dg D] _ _ _:=Hr ok w n hn40 q l D _ hp hn
      simp only [D9,Ag] at hG
      refine R6 [0,1,2,3,4,6] [0,1,2,3,4,6] (hG) (by constructor <;> (try simp only [IQ,Gj,LY,seval]) <;> first | exact q1 | (exact fun j hj=>(hP j hj).symm)) (by simp only [IQ,Gj,LX]) ?_
      (simp only [Lbh,YA,seval])
      have zz:=@mach.eq_1;refine G2 [5] (B9 ok.toOkV f g pc false xt JH) ?_
      (simp only [mach,B7,seval])
      have zz:=EH PY @pM.eq_1 @pM.eq_2 @AF.eq_1;exact Bu hx [0,1,2,3,4,5,6,136] ⟨rfl,rfl,rfl⟩
    | some p =>
      have hG:Ae M 328 [.ptr 0 [],dg D] _ _ _:=Hr ok w n hn40 q l D _ hp hn
      simp only [D9,Ag] at hG
      refine R6 [0,1,2,3,4,6] [0,1,2,3,4,6] (hG) (by constructor <;> (try simp only [IQ,Gj,LY,seval]) <;> first | exact q1 | (exact fun j hj=>(hP j hj).symm)) (by simp only [IQ,Gj,LX]) ?_
      (simp only [Lbh,seval])
      refine An (σ:=Nat) (fun i=>i≤8) (fun i=>fr 94 [(0,.ptr 5 []),(4,W b),(16,.sl 8 [] 0 64 1),(77,W 8#64),(78,W (BitVec.ofNat 64 i))])
       (fun i=>AK w (.sl 7 [] 0 (n + 1) 32) (CV D true l) ++ [(5,mach (fun j=>if b.toNat≤j∧j < b.toNat + i then I8 (fun i=>p.at (8 * (j - b.toNat) + i)) 8 else f j) g pc false xt),(7,.ar 32 (n + 1) fun i=>dg (if i < n then q i else D)),(8,AF p)]) (fun _=>9) (fun i=>8 - i) 0 Aa ?_ ?_
      ·refine Ao.fr [0,1,2,3,4,5,6,136,200] [] hx AX Am ?_ ?_
       ·simp only [LY,seval]
       ·simp only [IM,Ez,seval]
        exact fun i _=>(if_neg Aa).symm
      ·intro i hi
       refine es 2000 ?_
       by_cases h4:i=8
       ·subst h4
        (simp only [FU,seval])
        have zz:=CX PY @pM.eq_1 @pM.eq_2;exact Bu hx [0,1,2,3,4,5,6,7] ⟨rfl,rfl,rfl⟩
       ·have t1:(BitVec.ofNat 64 i).toNat=i:=RN
        have d0:(BitVec.ofNat 64 i < 8#64)=True:=eq_true Aaq
        have t2:(8#64 * BitVec.ofNat 64 i).toNat=8 * i:=Re
        have t3:(b + BitVec.ofNat 64 i).toNat=b.toNat + i:=Ux
        have t4:BitVec.ofNat 64 i + 1#64=BitVec.ofNat 64 (i + 1):=UP
        (simp only [d0,t2,t3,t4,FU,seval])
        repeat refine sd ?_
        refine YF (Du ok (64 - 8 * i) Aa (fun j=>p.at (8 * i + j))) (by (try simp only [AF,CB,seval]) <;> first | exact q1 | ((show 8 * i + (64 - 8 * i)≤64;omega))) (by simp only [AF,Cn,LX]) ?_
        (simp only [t2,t3,t4,B7,seval])
        repeat refine sd ?_
        refine ⟨i + 1,by omega,by omega,?_⟩
        refine Ao.fr [0,1,2,3,4,5,6,7,8] [] hx AX Am ?_ ?_
        ·simp only [LY,seval]
        ·simp only [Ez,seval]
         intro q hq
         by_cases e:q=b.toNat + i
         ·subst e
          rw [if_pos rfl,if_pos Aa,Nat.add_sub_cancel_left];simp only [W,LY,seval]
         ·rw [if_neg e]
          by_cases e2:b.toNat≤q∧q < b.toNat + i
          ·rw [if_pos Aa,if_pos e2];simp only [W,LY,seval]
          ·rw [if_neg Aa,if_neg e2];simp only [W,LY,seval]
  ·have d0:((i:Int) < 4)=True:=eq_true Aa
   have w0:IntKind.i64.wrap ((i:Int) + 1)=((i + 1:Nat):Int):=Br
   have n0:(0:Int)≤(i:Int):=Aa
   (simp only [d0,w0,FU,seval])
   repeat refine sd ?_
   have zz:=@Cn;refine G2 [7] (Dv okA ok (8 * i) Aa (AW fun j=>f (a.toNat + j)) (f (a.toNat + i))) ?_
   (simp only [B7,w0,seval])
   repeat refine sd ?_
   refine ⟨i + 1,by omega,by omega,by omega,?_⟩
   have e88:8 * (i + 1)=8 * i + 8:=Aa
   rw [e88]
   refine Ao.fr [0,1,2,3,4,5,6,104] [] hx AX Am ?_ ?_
   ·simp only [LY,seval]
   ·simp only [Ez,seval]
    intro q hq
    by_cases e:q < 8 * i
    ·rw [if_pos e]
    ·have e1:q / 8=i:=Aa
     have e2:q % 8=q - 8 * i:=Aa
     rw [if_neg e,AW,e1,e2]
def pQ (f g:Nat→BitVec 64) (pc xt b:BitVec 64):Option Pr→V
 | some p=>mach (fun j=>if b.toNat≤j∧j < b.toNat + 8 then I8 (fun i=>p.at (8 * (j - b.toNat) + i)) 8 else f j) g (pc + 1#64) false xt
 | none=>mach f g pc true JH
theorem Is {M:Seat} (okA:OkM M) (ok:OkO M) (s:WS) (l:List (Dg × Bool)) (f g:Nat→BitVec 64) (pc xt:BitVec 64) (hpc:¬ 8192#64≤pc) (w:BitVec 64) (hw:f pc.toNat=w) (hop:BP w=35) (h2:w >>> 32 &&& 255#64=0#64)
 (ha:(g (pF w 48)).toNat + 4≤8192) (hb:(g (pF w 44)).toNat + 8≤8192) (D:Dg) (hD:Dg.mk' (AW fun j=>f ((g (pF w 48)).toNat + j))=D) (o:Option Pr) (sn:Bool) (hl:DM D s.pres=o) (hs:was l D sn) :
 Ae M 70 [.ptr 5 [],.ptr 0 []] (AK s .nils l ++ [(5,mach f g pc false xt)]) 6
  (Q3 .nili (pSN s l D sn ++ (5,pQ f g pc xt (g (pF w 44)) o) :: pAN D sn) (if sn then 6 else 7)):=by
 refine Ab ok.k70 rfl fun x hx=>?_
 have hp:pc.toNat < 8192:=Gh
 have a1:=Ap w 52
 have a2:=Ap w 48
 have a3:=Ap w 44
 have hO:=Lm okA ok s l f g pc xt _ _ ha hb o sn (by rw [hD];exact hl) (by rw [hD];exact hs)
 rw [hD] at hO
 clear hD hl hs
 refine es 2000 ?_;(simp only [PU,PR,IM,hpc,hw,LZ,seval])
 repeat refine sd ?_
 have zz:=@Bg.eq_1;refine KZ (A6 ok.toOkV w Aa h2) ?_
 (simp only [GR,hop,seval])
 repeat refine sd ?_
 cases sn with
 | true =>
   cases o with
   | none =>
     simp only [Option.isSome,pM,Lb8] at hO
     have zz:=Bo IM Gj;refine SI [0,1,2,3,4,5] (hO) ?_
     (simp only [FU,A3,seval])
     repeat refine sd ?_
     have zz:=CX PY @pQ.eq_1 @pQ.eq_2;exact Bu hx [0,1,2,3,4,5] ⟨rfl,rfl,rfl⟩
   | some p =>
     simp only [Option.isSome,pM,Lb8] at hO
     simp only [pQ]
     generalize (fun j=>if (g (pF w 44)).toNat≤j∧j < (g (pF w 44)).toNat + 8 then I8 (fun i=>p.at (8 * (j - (g (pF w 44)).toNat) + i)) 8 else f j)=F at *
     have zz:=Bo IM Gj;refine SI [0,1,2,3,4,5] (hO) ?_
     (simp only [FU,A3,seval])
     repeat refine sd ?_
     have zz:=CX PY @pQ.eq_1 @pQ.eq_2;exact Bu hx [0,1,2,3,4,5] ⟨rfl,rfl,rfl⟩
 | false =>
   cases o with
   | none =>
     simp only [Option.isSome,pM,Lb8] at hO
     have zz:=Bo IM Gj;refine SI [0,1,2,3,4,5] (hO) ?_
     (simp only [FU,A3,seval])
     repeat refine sd ?_
     have zz:=CX PY @pQ.eq_1 @pQ.eq_2;exact Bu hx [0,1,2,3,4,5,2070] ⟨rfl,rfl,rfl⟩
   | some p =>
     simp only [Option.isSome,pM,Lb8] at hO
     simp only [pQ]
     generalize (fun j=>if (g (pF w 44)).toNat≤j∧j < (g (pF w 44)).toNat + 8 then I8 (fun i=>p.at (8 * (j - (g (pF w 44)).toNat) + i)) 8 else f j)=F at *
     have zz:=Bo IM Gj;refine SI [0,1,2,3,4,5] (hO) ?_
     (simp only [FU,A3,seval])
     repeat refine sd ?_
     have zz:=CX PY @pQ.eq_1 @pQ.eq_2;exact Bu hx [0,1,2,3,4,5,2070] ⟨rfl,rfl,rfl⟩
theorem II {M:Seat} (okA:OkM M) (ok:OkO M) (s:WS) (n:Nat) (hn40:n < 1099511627776) (q:Nat→Dg) (l:List (Dg × Bool)) (f g:Nat→BitVec 64) (pc xt:BitVec 64) (hpc:¬ 8192#64≤pc) (w:BitVec 64) (hw:f pc.toNat=w) (hop:BP w=35) (h2:w >>> 32 &&& 255#64=0#64)
 (ha:(g (pF w 48)).toNat + 4≤8192) (hb:(g (pF w 44)).toNat + 8≤8192) (D:Dg) (hD:Dg.mk' (AW fun j=>f ((g (pF w 48)).toNat + j))=D) (o:Option Pr) (sn:Bool) (hl:DM D s.pres=o) (hs:was l D sn) :
 Ae M 70 [.ptr 5 [],.ptr 0 []] (AK s (.sl 6 [] 0 n 32) l ++ [(5,mach f g pc false xt),(6,.ar 32 n fun i=>dg (q i))]) 7
  (Q3 .nili (pSS s n l D sn ++ (5,pQ f g pc xt (g (pF w 44)) o) :: pAS n q D sn) (if sn then 7 else 8)):=by
 refine Ab ok.k70 rfl fun x hx=>?_
 have hp:pc.toNat < 8192:=Gh
 have a1:=Ap w 52
 have a2:=Ap w 48
 have a3:=Ap w 44
 have hO:=La okA ok s n hn40 q l f g pc xt _ _ ha hb o sn (by rw [hD];exact hl) (by rw [hD];exact hs)
 rw [hD] at hO
 clear hD hl hs
 refine es 2000 ?_;(simp only [PU,PR,IM,hpc,hw,LZ,seval])
 repeat refine sd ?_
 have zz:=@Bg.eq_1;refine KZ (A6 ok.toOkV w Aa h2) ?_
 (simp only [GR,hop,seval])
 repeat refine sd ?_
 cases sn with
 | true =>
   cases o with
   | none =>
     simp only [Option.isSome,pM,Lb8] at hO
     have zz:=Bo IM Gj;refine SI [0,1,2,3,4,5,6] (hO) ?_
     (simp only [FU,A3,seval])
     repeat refine sd ?_
     have zz:=CX PY @pQ.eq_1 @pQ.eq_2;exact Bu hx [0,1,2,3,4,5,6] ⟨rfl,rfl,rfl⟩
   | some p =>
     simp only [Option.isSome,pM,Lb8] at hO
     simp only [pQ]
     generalize (fun j=>if (g (pF w 44)).toNat≤j∧j < (g (pF w 44)).toNat + 8 then I8 (fun i=>p.at (8 * (j - (g (pF w 44)).toNat) + i)) 8 else f j)=F at *
     have zz:=Bo IM Gj;refine SI [0,1,2,3,4,5,6] (hO) ?_
     (simp only [FU,A3,seval])
     repeat refine sd ?_
     have zz:=CX PY @pQ.eq_1 @pQ.eq_2;exact Bu hx [0,1,2,3,4,5,6] ⟨rfl,rfl,rfl⟩
 | false =>
   cases o with
   | none =>
     simp only [Option.isSome,pM,Lb8] at hO
     have zz:=Bo IM Gj;refine SI [0,1,2,3,4,5,6] (hO) ?_
     (simp only [FU,A3,seval])
     repeat refine sd ?_
     have zz:=CX PY @pQ.eq_1 @pQ.eq_2;exact Bu hx [0,1,2,3,4,5,6,2071] ⟨rfl,rfl,rfl⟩
   | some p =>
     simp only [Option.isSome,pM,Lb8] at hO
     simp only [pQ]
     generalize (fun j=>if (g (pF w 44)).toNat≤j∧j < (g (pF w 44)).toNat + 8 then I8 (fun i=>p.at (8 * (j - (g (pF w 44)).toNat) + i)) 8 else f j)=F at *
     have zz:=Bo IM Gj;refine SI [0,1,2,3,4,5,6] (hO) ?_
     (simp only [FU,A3,seval])
     repeat refine sd ?_
     have zz:=CX PY @pQ.eq_1 @pQ.eq_2;exact Bu hx [0,1,2,3,4,5,6,2071] ⟨rfl,rfl,rfl⟩
structure SM where
 w:WS
 l:List (Dg × Bool)
 n:Nat
 q:Nat→Dg
 m:Mc
def Nh (s:SM):Hp:=AK s.w .nils s.l ++ [(5,s.m.v)]
def Sh (b:Nat) (s:SM):Hp:=AK s.w (.sl b [] 0 s.n 32) s.l ++ [(5,s.m.v),(b,.ar 32 s.n fun i=>dg (s.q i))]
theorem Adm (a:Nat × V) (l m:Hp):(a :: l) ++ m=a :: (l ++ m):=rfl
theorem Adz (l:Hp):([]:Hp) ++ l=l:=rfl
def HK:=(W7 @Nh.eq_1 @Sh.eq_1 @AK.eq_1 @Ry.eq_1 @Aw.eq_1 @mach.eq_1 @Adm @Adz)
inductive TrR (M:Seat) (f:Nat) (ex:List V) (r:V) (s s':SM):Prop
 | mach (h:Ae M f (.ptr 0 [] :: .ptr 1 [] :: ex) [(0,s.m.v)] 2 (fun v H' k'=>v=r∧H'=[(0,s'.m.v)]∧k'=2)) (hw:s'={ s with m:=s'.m })
 | NN (h0:s.n=0) (h1:s'.n=0) (h:Ae M f (.ptr 5 [] :: .ptr 0 [] :: ex) (Nh s) 6 (fun v H' k'=>v=r∧H'=Nh s'∧k'=6))
 | NS (h0:s.n=0) (h1:0 < s'.n) (h:Ae M f (.ptr 5 [] :: .ptr 0 [] :: ex) (Nh s) 6 (fun v H' k'=>v=r∧H'=Sh 6 s'∧k'=7))
 | SS (h0:0 < s.n) (h1:0 < s'.n) (h:Ae M f (.ptr 5 [] :: .ptr 0 [] :: ex) (Sh 6 s) 7 (fun v H' k'=>v=r∧H'=Sh 6 s'∧k'=7))
 | SN (h0:0 < s.n) (h1:0 < s'.n) (h:Ae M f (.ptr 5 [] :: .ptr 0 [] :: ex) (Sh 6 s) 7 (fun v H' k'=>v=r∧H'=Sh 7 s'∧k'=8))
abbrev IC (M:Seat) (s s':SM):Prop:=TrR M 70 [] .nili s s'∧s'.n≤s.n + 1
theorem DF {a n:BitVec 64} (h:wi a n=true):a.toNat + n.toNat≤8192:=by
 unfold wi at h
 simp only [Bool.and_eq_true,decide_eq_true_eq,BitVec.le_def,BitVec.toNat_sub] at h
 have e:(8192#64).toNat=8192:=rfl
 rw [e] at h
 omega
theorem Aaa {M:Seat} (okA:OkM M) (ok:OkO M) (okP:OkP M) (s:SM) (hs:s.n < 1099511627776):∃ s',IC M s s':=by
 obtain ⟨w,l,n,q,m⟩:=s
 by_cases ha:Oc m
 ·obtain ⟨f,g,pc,hl,xt⟩:=m
  obtain ⟨h1,hpc,h2,ho⟩:=ha
  dsimp only at h1 hpc h2 ho hs
  subst h1
  rcases ho with ⟨hop,hw⟩ | ⟨hop,hw⟩
  ·simp only [Bool.and_eq_true] at hw
   have ha:=DF hw.1
   have hb:=DF hw.2
   cases n with
   | zero=>exact ⟨⟨_,l,0,q,⟨_,g,_,false,xt⟩⟩,.intro (.NN rfl rfl (Gl okA ok w l f g pc xt hpc _ rfl hop h2 ha hb)) BD⟩
   | succ n=>exact ⟨⟨_,l,n + 1,q,⟨_,g,_,false,xt⟩⟩,.intro (.SS (Nat.succ_pos _) (Nat.succ_pos _) (FE (n + 1) q okA ok w l f g pc xt hpc _ rfl hop h2 ha hb)) BD⟩
  ·simp only [Bool.and_eq_true] at hw
   have ha:=DF hw.1
   have hb:=DF hw.2
   obtain ⟨D,hD⟩:∃ D,Dg.mk' (AW fun j=>f ((g (pF (f pc.toNat) 48)).toNat + j))=D:=⟨_,rfl⟩
   obtain ⟨sn,hs'⟩:∃ sn,was l D sn:=by
    cases hc:DM D l with
    | none=>exact ⟨false,.inr ⟨rfl,.inl hc⟩⟩
    | some b => cases b with
      | false=>exact ⟨false,.inr ⟨rfl,.inr hc⟩⟩
      | true=>exact ⟨true,.inl ⟨rfl,hc⟩⟩
   obtain ⟨m',hm⟩:∃ m':Mc,pQ f g pc xt (g (pF (f pc.toNat) 44)) (DM D w.pres)=m'.v:=by
    cases DM D w.pres <;> exact ⟨⟨_,_,_,_,_⟩,rfl⟩
   cases n with
   | zero =>
     have h:=Is okA ok w l f g pc xt hpc _ rfl hop h2 ha hb D hD _ sn rfl hs'
     rw [hm] at h
     cases sn with
     | true=>exact ⟨⟨w,l,0,q,m'⟩,.intro (.NN rfl rfl h) BD⟩
     | false=>exact ⟨⟨w,_,1,fun _=>D,m'⟩,.intro (.NS rfl Nat.one_pos h) BD⟩
   | succ n =>
     have h:=II okA ok w (n + 1) hs q l f g pc xt hpc _ rfl hop h2 ha hb D hD _ sn rfl hs'
     rw [hm] at h
     cases sn with
     | true=>exact ⟨⟨w,l,n + 1,q,m'⟩,.intro (.SS (Nat.succ_pos _) (Nat.succ_pos _) h) BD⟩
     | false=>exact ⟨⟨w,_,n + 1 + 1,_,m'⟩,.intro (.SN (Nat.succ_pos _) (Nat.succ_pos _) h) BD⟩
 ·obtain ⟨m',hm⟩:=Xx ok okP m ha
  exact ⟨⟨w,l,n,q,m'⟩,.mach hm rfl,Nat.le_succ _⟩
end Mv
