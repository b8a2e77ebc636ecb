/- A part. -/
import Derived.Test.YtlfkjfonpacelaaGreatDoorET
set_option linter.all false
set_option maxRecDepth 20000
set_option maxHeartbeats 4000000
namespace Mv
open Go
def At:Nat→Dg
 | 0=>Dg.zero
 | h + 1=>Ch (At h) (At h)
theorem Gz {M:Seat} (ok:OkM M) :
 Ag M 315 [] [] 0 (Q3 (.ar 32 17 (fun j=>dg (At j))) [] 0):=by
 refine Ab ok.k315 rfl fun x hx=>?_
 refine es 30 ?_
 simp only [Ah4,Ahq,E5,↓Ad,ex,Ro,AJ,AX,Ae,seval]
 refine An (σ:=Nat) (fun i=>1≤i∧i≤17) (fun i=>fr 19 [(0,.ptr 0 []),(1,.ptr 1 []),(2,.int .i64 i)])
  (fun i=>[(0,.ar 32 17 (fun _=>dg Dg.zero)),(1,.ar 32 17 (fun j=>dg (if j < i then At j else Dg.zero)))]) (fun _=>2) (fun i=>17 - i) 1 Aa ?_ ?_
 ·refine Ao.fr [0,16] [] hx AQ Am ?_ ?_
  ·simp only [Bo,seval]
  ·simp only [Bo,seval,Ws]
   intro j hj
   by_cases h:j < 1
   ·rw [if_pos h];have:j=0:=Aa
    subst this;rfl
   ·rw [if_neg h]
 ·intro i ⟨hi1,hi⟩
  (refine es 40 ?_;simp (maxSteps:=2000000) only [Cz,↓Ad,ex,Ro,AJ,AX,Ae,seval])
  refine ⟨fun hlt=>?_,fun hge=>?_⟩
  ·have hlt:(i:Int)≤16:=So
   have w1:IntKind.i64.wrap ((i:Int) - 1)=((i - 1:Nat):Int):=AZ
   have w2:IntKind.i64.wrap ((i:Int) + 1)=((i + 1:Nat):Int):=AZ
   simp only [w1,Int.toNat_natCast,if_pos (show i - 1 < i by omega)]
   repeat refine sd ?_
   refine ⟨_,_,AE (Bl ok _ _) ⟨(AU _ _ _ _ _).mpr rfl,(AU _ _ _ _ _).mpr rfl,trivial⟩ rfl ⟨rfl,rfl⟩,?_⟩
   simp only [E5,↓Ad,ex,Ro,AJ,AX,Ae,seval]
   repeat refine sd ?_
   refine ⟨i + 1,⟨by omega,by omega⟩,by omega,?_⟩
   refine Ao.fr [0,1] [] hx AQ Am ?_ ?_
   ·simp only [Bo,seval,w2]
   ·simp only [Bo,seval]
    intro j hj
    by_cases h1:j=i
    ·subst h1
     rw [if_pos rfl,if_pos Aa]
     obtain ⟨p,rfl⟩:∃ p,j=p + 1:=⟨j - 1,by omega⟩
     rfl
    ·rw [if_neg h1]
     by_cases h2:j < i
     ·rw [if_pos h2,if_pos Aa]
     ·rw [if_neg h2,if_neg Aa]
  ·have hge:¬ (i:Int)≤16:=RE
   have hi17:i=17:=Aa
   subst hi17
   refine Ar.mk hx [] [] (.ar 32 17 (fun j=>dg (At j))) [] 0 Am ?_ ?_ trivial ⟨rfl,rfl,rfl⟩
   ·simp only [Dz,Atl,E5,↓Ad,ex,Ro,AJ,AX,Ae,seval]
   ·simp only [La6,LR,↓Ad,ex,Ro,AJ,AX,Ae,seval]
    intro j hj
    rw [if_pos hj]
def Ah (a b:V):V:=.tup (.fcons 0 a (.fcons 1 b .fnil))
def AS (a b c:V):V:=.tup (.fcons 0 a (.fcons 1 b (.fcons 2 c .fnil)))
def Rs:=(aq7 @LU @La6 @dg.eq_1 @Ah.eq_1 @AS.eq_1 @FY.eq_1 @FY.eq_2)
theorem R4 {M:Seat} (ok:OkM M) (h:Nat) (hh:h≤16) :
 Ag M 197 [.int .i64 h] [] 0 (Q3 (Ah (dg (At h)) .nili) [] 0):=by
 refine Ab ok.k197 rfl fun x hx=>?_
 refine es 30 ?_
 simp only [Afq,Aeg,E5,↓Ad,ex,Ro,AJ,AX,Ae,seval]
 have h1:decide ((h:Int) < 0)=false:=B5
 have h2:decide ((16:Int) < h)=false:=DI
 simp only [h1,h2,E5,↓Ad,ex,Ro,AJ,AX,Ae,seval]
 refine AE (Gz ok) trivial rfl ?_
 simp only [E5,↓Ad,ex,Ro,AJ,AX,Ae,seval]
 repeat refine sd ?_
 refine Ar.mk hx [] [] (Ah (dg (At h)) .nili) [] 0 Am ?_ ?_ trivial ⟨rfl,rfl,rfl⟩
 ·simp only [Laj,G5,E5,↓Ad,ex,Ro,AJ,AX,Ae,seval]
  rfl
 ·simp only [La6,FY,Ah,LR,↓Ad,ex,Ro,AJ,AX,Ae,seval,dg]
variable {M:Seat}
def Kr (z:Dg) (l:List Dg) (q:Nat):Dg:=Ch (l.getD (2 * q) z) (l.getD (2 * q + 1) z)
def up (z:Dg) (l:List Dg):List Dg:=(List.range ((l.length + 1) / 2)).map (Kr z l)
theorem Hb (z:Dg) (l:List Dg):(up z l).length=(l.length + 1) / 2:=by simp [up]
theorem Zu (z:Dg) (l:List Dg) (q:Nat) (d:Dg) (h:q < (l.length + 1) / 2):(up z l).getD q d=Kr z l q:=by
 simp [up,List.getD,List.getElem?_map,List.getElem?_range h]
def Bx (l:List Dg):Nat→List Dg
 | 0=>l
 | h + 1=>up (At h) (Bx l h)
def row (l:List Dg):V:=.lst 32 l.length (Fk l)
def EH (l:List Dg) (h:Nat):V:=if h=0 then row l else if Bx l h=[] then .nils else row (Bx l h)
theorem Cx (l:List Dg) (h:Nat):EH l h = .lst 32 (Bx l h).length (Fk (Bx l h)) ∨ (EH l h = .nils∧Bx l h=[]):=by
 unfold EH
 by_cases h0:h=0
 ·subst h0;exact .inl rfl
 ·rw [if_neg h0]
  by_cases h1:Bx l h=[]
  ·exact .inr ⟨if_pos h1,h1⟩
  ·rw [if_neg h1];exact .inl rfl
theorem DN (l:List Dg) (h:Nat):(EH l h).solid=true:=by
 rcases Cx l h with e | ⟨e,_⟩ <;> rw [e] <;> rfl
theorem EQ (l:List Dg) (h:Nat):(EH l h).size=1:=by
 rcases Cx l h with e | ⟨e,_⟩ <;> rw [e] <;> rfl
theorem G4 (l:List Dg) (h:Nat):(EH l h).isAgg=false:=by
 rcases Cx l h with e | ⟨e,_⟩ <;> rw [e] <;> rfl
theorem Bg (H:Hp) (m z:List Nat) (l:List Dg) (h:Nat):Az H m z (EH l h) (EH l h):=by
 rcases Cx l h with e | ⟨e,_⟩ <;> rw [e]
 ·simp only [Az,true_and]
  exact fun j _=>(AU _ _ _ _ _).mpr rfl
 ·simp only [Az]
theorem F7 (H:Hp) (m z:List Nat) (l:List Dg) (h:Nat):Bi H m z (EH l h) (EH l h):=by
 have h1:=Bg H m z l h
 rcases Cx l h with e | ⟨e,_⟩ <;> rw [e] at h1 ⊢ <;> exact h1
theorem Qp {x:Ctx} {Q:List V→Hp→Nat→Prop} {k:List It} {P:Prop} (A':List V) (H':Hp) (N:Nat) (h:Bm M x Q k N A' H') (f:Bm M x Q k N A' H'→P):P:=f h
theorem Aud (l:List Dg):∀ h,(Bx l h).length≤l.length
 | 0=>Nat.le_refl _
 | h + 1 => by
   have:=Aud l h
   simp only [Bx,Hb]
   omega
theorem E3 {l:List Dg} {i:Nat} (h:i < l.length) (a b:Dg):l.getD i a=l.getD i b:=by simp [List.getD,h]
theorem Dv {l:List Dg} {i:Nat} (h:l.length≤i) (a:Dg):l.getD i a=a:=by simp [List.getD,h]
theorem LE {z:Dg} {L:List Dg} {q:Nat} {v:Dg} (hu:Kr z L q=v) (i:Nat) (hi:i < q + 1):(if i < q then dg (Kr z L i) else if i - q=0 then dg v else V.ar 1 32 (fun _=>V.int .u8 0))=dg (Kr z L i):=by
 by_cases h:i < q
 ·rw [if_pos h]
 ·have:i=q:=Aa
  subst this
  rw [if_neg h,if_pos Aa,hu]
theorem Jy {z:Dg} {L:List Dg} {v:Dg} (hu:Kr z L 0=v) (i:Nat) (hi:i < 1):(if i=0 then dg v else V.ar 1 32 (fun _=>V.int .u8 0))=dg (Kr z L i):=by
 have:i=0:=Aa
 subst this
 rw [if_pos rfl,hu]
theorem Tx {d:Nat} (hd:d≤16):IntKind.i64.wrap (1 * 2 ^ min d IntKind.i64.bits)=((2 ^ d:Nat):Int):=by
 have e1:min d IntKind.i64.bits=d:=by simp only [IntKind.bits];omega
 have h2:2 ^ d≤2 ^ 16:=Nat.pow_le_pow_right Aa hd
 rw [e1,Int.one_mul]
 have e2:(2:Int) ^ d=((2 ^ d:Nat):Int):=by rw [Int.natCast_pow];rfl
 rw [e2]
 generalize 2 ^ d=P at h2 ⊢
 rw [AY Aa]
def Mt:LC:=(.seq (.regd [⟨0,0,⟨(some 61),.lo (.mv (.t 11)),none⟩⟩,
 ⟨1,0,⟨(some 62),.lo (.mv (.t 12)),none⟩⟩,
 ⟨2,3,⟨(some 63),.lo (.isl 32 (.t 61) (.t 62)),none⟩⟩,
 ⟨3,7,⟨(some 64),.lo (.load true 32 (.t 63)),none⟩⟩,
 ⟨4,0,⟨(some 65),.lo (.mv (.t 9)),none⟩⟩,
 ⟨5,16,⟨(some 66),.lo (.iarr 17 32 (.t 7) (.t 65)),none⟩⟩,
 ⟨6,48,⟨(some 67),.lo (.load true 32 (.t 66)),none⟩⟩,
 ⟨7,127,⟨(some 68),.lo (.eq false false (.ar 32 1 false .int) (.t 64) (.t 67)),none⟩⟩,
 ⟨8,255,⟨(some 69),.lo (.mv (.t 68)),none⟩⟩,
 ⟨9,511,⟨(some 70),.lo (.load true 32 (.t 13)),(some (69,true))⟩⟩,
 ⟨10,511,⟨(some 71),.lo (.mv (.t 9)),(some (69,true))⟩⟩,
 ⟨11,1535,⟨(some 72),.lo (.iarr 17 32 (.t 7) (.t 71)),(some (69,true))⟩⟩,
 ⟨12,3583,⟨(some 73),.lo (.load true 32 (.t 72)),(some (69,true))⟩⟩,
 ⟨13,8191,⟨(some 74),.lo (.eq false false (.ar 32 1 false .int) (.t 70) (.t 73)),(some (69,true))⟩⟩,
 ⟨14,16383,⟨(some 75),.lo (.pick (.t 69) (.t 74) (.c (.bool false))),none⟩⟩])
 (.cond (.t 75) (.reg [⟨(some 76),.lo (.mv (.t 10)),none⟩,
  ⟨(some 77),.lo (.mv (.t 9)),none⟩,
  ⟨(some 78),.lo (.ari .add (.t 77) (.c (.int .i64 1))),none⟩,
  ⟨(some 79),.lo (.iarr 17 32 (.t 7) (.t 78)),none⟩,
  ⟨(some 80),.lo (.load true 32 (.t 79)),none⟩,
  ⟨(some 81),.lo (.bsl 32 1 (.ar 32 (.int .u8)) [(.i 32 0,32,(.t 80))]),none⟩,
  ⟨(some 82),.lo (.app 32 32 (.t 76) (.t 81)),none⟩,
  ⟨(some 10),.lo (.mv (.t 82)),none⟩]) (.regd [⟨1,0,⟨(some 84),.lo (.mv (.t 11)),none⟩⟩,
  ⟨2,0,⟨(some 85),.lo (.mv (.t 12)),none⟩⟩,
  ⟨3,3,⟨(some 86),.lo (.isl 32 (.t 84) (.t 85)),none⟩⟩,
  ⟨4,7,⟨(some 87),.lo (.load true 32 (.t 86)),none⟩⟩,
  ⟨5,0,⟨(some 88),.lo (.load true 32 (.t 13)),none⟩⟩,
  ⟨6,31,⟨(some 89),.call 207 [(.t 87),(.t 88)],none⟩⟩,
  ⟨0,0,⟨(some 83),.lo (.mv (.t 10)),none⟩⟩,
  ⟨7,63,⟨(some 90),.lo (.bsl 32 1 (.ar 32 (.int .u8)) [(.i 32 0,32,(.t 89))]),none⟩⟩,
  ⟨8,255,⟨(some 91),.lo (.app 32 32 (.t 83) (.t 90)),none⟩⟩,
  ⟨9,511,⟨(some 10),.lo (.mv (.t 91)),none⟩⟩])))
def Lu:LC:=(.reg [⟨(some 46),.lo (.mv (.t 12)),none⟩,
 ⟨(some 47),.lo (.ari .add (.t 46) (.c (.int .i64 2))),none⟩,
 ⟨(some 12),.lo (.mv (.t 47)),none⟩])
theorem Adv {x:Ctx} {Q:List V→Hp→Nat→Prop} (ok:OkM M) (hx:x.k=0) {d h:Nat} {l:List Dg} (hd:d≤16) (hlt:(h:Int) < d) (hn:(Bx l h).length≤65536) (hlt2:(0:Int) < (Bx l h).length)
 (e1:(Bx l h).getD 0 Dg.zero=At h) {rest:List It} {J:List V→Hp→Nat→Prop}
 (hJ:∀ A H N,Ao M x A H N (fr 99 [(5,.ptr 0 []),(6,.nili),(7,.ptr 1 []),(8,.sl 2 [] 0 (h + 1) 1),(9,.int .i64 h),(10,.sl 3 [] 0 1 32),(11,.lst 32 (Bx l h).length (Fk (Bx l h))),(12,.int .i64 2),(34,.int .i64 d),(35,.int .i64 h)])
  [(0,.ar 32 17 (fun _=>dg Dg.zero)),(1,.ar 32 17 (fun j=>dg (At j))),(2,.ar 1 (h + 1) (EH l)),(3,.ar 32 1 (fun j=>dg (Kr (At h) (Bx l h) j)))] 4→J A H N) :
 Bm M x Q (.code Mt :: .blk 4 :: .code Lu :: .inv J :: rest) 5 (fr 99 [(5,.ptr 0 []),(6,.nili),(7,.ptr 1 []),(8,.sl 2 [] 0 (h + 1) 1),(9,.int .i64 h),(10,.nils),(11,.lst 32 (Bx l h).length (Fk (Bx l h))),(12,.int .i64 0),(13,.ptr 4 []),(34,.int .i64 d),(35,.int .i64 h)])
  ((4,dg ((Bx l h).getD 1 (At h))) :: (0,.ar 32 17 (fun _=>dg Dg.zero)) :: (1,.ar 32 17 (fun j=>dg (At j))) :: (2,.ar 1 (h + 1) (EH l)) :: []):=by
 have w1:IntKind.i64.wrap ((0:Int) + 1)=1:=rfl
 have w2:IntKind.i64.wrap ((0:Int) + 2)=2:=rfl
 have w3:IntKind.i64.wrap ((h:Int) + 1)=((h + 1:Nat):Int):=AZ
 have hu:Kr (At h) (Bx l h) 0=Ch ((Bx l h).getD 0 Dg.zero) ((Bx l h).getD 1 (At h)):=by
  rw [E3 (i:=0) Aa Dg.zero (At h)];rfl
 have d1:=decide_eq_true e1
 (refine es 14 ?_;simp (maxSteps:=2000000) only [Mt,Lu,d1,w1,w2,w3,Cz,↓Ad,ex,Ro,AJ,AX,Ae,Nat.reduceLT,Int.reduceLE,Int.reduceLT,Nat.reducePow,Nat.reduceAnd,Nat.reduceOr,Nat.reduceShiftRight,Int.reduceToNat,reduceCtorEq,Nat.reduceAdd,Nat.reduceMul,Nat.reduceSub,Nat.reduceBEq,Nat.reduceEqDiff])
 refine ⟨by omega,by omega,by omega,by omega,by omega,by omega,by omega,fun e2=>?_,fun e2=>?_⟩
 ·have e2:=of_decide_eq_true e2
  refine ⟨⟨by omega,by omega⟩,by omega,by omega,hJ _ _ _ ?_⟩
  refine Ao.fr [0,1,2,581] [] hx AQ Am ?_ ?_
  ·simp only [Bo,Nat.reduceLT,reduceCtorEq,Nat.reduceEqDiff,Nat.reduceLeDiff,Nat.reduceBEq]
  ·simp only [Bo,Nat.reduceLT,reduceCtorEq,Nat.reduceEqDiff,Nat.reduceLeDiff,Nat.reduceBEq]
   exact ⟨fun _ _=>Bg _ _ _ _ _,fun i hi=>by rw [Jy (by rw [hu,e1,e2];rfl) i hi];exact (AU _ _ _ _ _).mpr rfl⟩
 ·refine ⟨by omega,_,_,AE (Bl ok _ _) ⟨(AU _ _ _ _ _).mpr rfl,(AU _ _ _ _ _).mpr rfl,trivial⟩ rfl ⟨rfl,rfl⟩,?_⟩
  simp only [Cz,↓Ad,ex,Ro,AJ,AX,Ae,Nat.reduceLT,Int.reduceLE,Int.reduceLT,Nat.reducePow,Nat.reduceAnd,Nat.reduceOr,Nat.reduceShiftRight,Int.reduceToNat,reduceCtorEq,Nat.reduceAdd,Nat.reduceMul,Nat.reduceSub,Nat.reduceBEq,Nat.reduceEqDiff]
  refine ⟨by omega,.inr Aa,hJ _ _ _ ?_⟩
  refine Ao.fr [0,1,2,773] [] hx AQ Am ?_ ?_
  ·simp only [Bo,Nat.reduceLT,reduceCtorEq,Nat.reduceEqDiff,Nat.reduceLeDiff,Nat.reduceBEq]
  ·simp only [Bo,Nat.reduceLT,reduceCtorEq,Nat.reduceEqDiff,Nat.reduceLeDiff,Nat.reduceBEq]
   exact ⟨fun _ _=>Bg _ _ _ _ _,fun i hi=>by rw [Jy hu i hi];exact (AU _ _ _ _ _).mpr rfl⟩
theorem Acu {x:Ctx} {Q:List V→Hp→Nat→Prop} (ok:OkM M) (hx:x.k=0) {d h:Nat} {l:List Dg} (hd:d≤16) (hlt:(h:Int) < d) (hn:(Bx l h).length≤65536) (hlt2:(0:Int) < (Bx l h).length)
 (e1:¬ (Bx l h).getD 0 Dg.zero=At h) {rest:List It} {J:List V→Hp→Nat→Prop}
 (hJ:∀ A H N,Ao M x A H N (fr 99 [(5,.ptr 0 []),(6,.nili),(7,.ptr 1 []),(8,.sl 2 [] 0 (h + 1) 1),(9,.int .i64 h),(10,.sl 3 [] 0 1 32),(11,.lst 32 (Bx l h).length (Fk (Bx l h))),(12,.int .i64 2),(34,.int .i64 d),(35,.int .i64 h)])
  [(0,.ar 32 17 (fun _=>dg Dg.zero)),(1,.ar 32 17 (fun j=>dg (At j))),(2,.ar 1 (h + 1) (EH l)),(3,.ar 32 1 (fun j=>dg (Kr (At h) (Bx l h) j)))] 4→J A H N) :
 Bm M x Q (.code Mt :: .blk 4 :: .code Lu :: .inv J :: rest) 5 (fr 99 [(5,.ptr 0 []),(6,.nili),(7,.ptr 1 []),(8,.sl 2 [] 0 (h + 1) 1),(9,.int .i64 h),(10,.nils),(11,.lst 32 (Bx l h).length (Fk (Bx l h))),(12,.int .i64 0),(13,.ptr 4 []),(34,.int .i64 d),(35,.int .i64 h)])
  ((4,dg ((Bx l h).getD 1 (At h))) :: (0,.ar 32 17 (fun _=>dg Dg.zero)) :: (1,.ar 32 17 (fun j=>dg (At j))) :: (2,.ar 1 (h + 1) (EH l)) :: []):=by
 have w1:IntKind.i64.wrap ((0:Int) + 1)=1:=rfl
 have w2:IntKind.i64.wrap ((0:Int) + 2)=2:=rfl
 have w3:IntKind.i64.wrap ((h:Int) + 1)=((h + 1:Nat):Int):=AZ
 have hu:Kr (At h) (Bx l h) 0=Ch ((Bx l h).getD 0 Dg.zero) ((Bx l h).getD 1 (At h)):=by
  rw [E3 (i:=0) Aa Dg.zero (At h)];rfl
 have d1:=decide_eq_false e1
 (refine es 14 ?_;simp (maxSteps:=2000000) only [Mt,Lu,d1,w1,w2,w3,Cz,↓Ad,ex,Ro,AJ,AX,Ae,Nat.reduceLT,Int.reduceLE,Int.reduceLT,Nat.reducePow,Nat.reduceAnd,Nat.reduceOr,Nat.reduceShiftRight,Int.reduceToNat,reduceCtorEq,Nat.reduceAdd,Nat.reduceMul,Nat.reduceSub,Nat.reduceBEq,Nat.reduceEqDiff])
 refine ⟨by omega,by omega,by omega,by omega,?_⟩
 ·refine ⟨by omega,_,_,AE (Bl ok _ _) ⟨(AU _ _ _ _ _).mpr rfl,(AU _ _ _ _ _).mpr rfl,trivial⟩ rfl ⟨rfl,rfl⟩,?_⟩
  simp only [Cz,↓Ad,ex,Ro,AJ,AX,Ae,Nat.reduceLT,Int.reduceLE,Int.reduceLT,Nat.reducePow,Nat.reduceAnd,Nat.reduceOr,Nat.reduceShiftRight,Int.reduceToNat,reduceCtorEq,Nat.reduceAdd,Nat.reduceMul,Nat.reduceSub,Nat.reduceBEq,Nat.reduceEqDiff]
  refine ⟨by omega,.inr Aa,hJ _ _ _ ?_⟩
  refine Ao.fr [0,1,2,773] [] hx AQ Am ?_ ?_
  ·simp only [Bo,Nat.reduceLT,reduceCtorEq,Nat.reduceEqDiff,Nat.reduceLeDiff,Nat.reduceBEq]
  ·simp only [Bo,Nat.reduceLT,reduceCtorEq,Nat.reduceEqDiff,Nat.reduceLeDiff,Nat.reduceBEq]
   exact ⟨fun _ _=>Bg _ _ _ _ _,fun i hi=>by rw [Jy hu i hi];exact (AU _ _ _ _ _).mpr rfl⟩
theorem Adt {x:Ctx} {Q:List V→Hp→Nat→Prop} (ok:OkM M) (hx:x.k=0) {d h:Nat} {q:Nat} {l:List Dg} (hd:d≤16) (hlt:(h:Int) < d) (hn:(Bx l h).length≤65536) (hlt2:((2 * q:Nat):Int) < (Bx l h).length)
 (e1:(Bx l h).getD (2 * q) Dg.zero=At h) {rest:List It} {J:List V→Hp→Nat→Prop}
 (hJ:∀ A H N,Ao M x A H N (fr 99 [(5,.ptr 0 []),(6,.nili),(7,.ptr 1 []),(8,.sl 2 [] 0 (h + 1) 1),(9,.int .i64 h),(10,.sl 3 [] 0 (q + 1) 32),(11,.lst 32 (Bx l h).length (Fk (Bx l h))),(12,.int .i64 (2 * (q + 1):Nat)),(34,.int .i64 d),(35,.int .i64 h)])
  [(0,.ar 32 17 (fun _=>dg Dg.zero)),(1,.ar 32 17 (fun j=>dg (At j))),(2,.ar 1 (h + 1) (EH l)),(3,.ar 32 (q + 1) (fun j=>dg (Kr (At h) (Bx l h) j)))] 4→J A H N) :
 Bm M x Q (.code Mt :: .blk 4 :: .code Lu :: .inv J :: rest) 5 (fr 99 [(5,.ptr 0 []),(6,.nili),(7,.ptr 1 []),(8,.sl 2 [] 0 (h + 1) 1),(9,.int .i64 h),(10,.sl 3 [] 0 q 32),(11,.lst 32 (Bx l h).length (Fk (Bx l h))),(12,.int .i64 (2 * q:Nat)),(13,.ptr 4 []),(34,.int .i64 d),(35,.int .i64 h)])
  ((4,dg ((Bx l h).getD (2 * q + 1) (At h))) :: (0,.ar 32 17 (fun _=>dg Dg.zero)) :: (1,.ar 32 17 (fun j=>dg (At j))) :: (2,.ar 1 (h + 1) (EH l)) :: [(3,.ar 32 q (fun j=>dg (Kr (At h) (Bx l h) j)))]):=by
 have w1:IntKind.i64.wrap (((2 * q:Nat):Int) + 1)=((2 * q + 1:Nat):Int):=AZ
 have w2:IntKind.i64.wrap (((2 * q:Nat):Int) + 2)=((2 * (q + 1):Nat):Int):=AZ
 have w3:IntKind.i64.wrap ((h:Int) + 1)=((h + 1:Nat):Int):=AZ
 have hu:Kr (At h) (Bx l h) q=Ch ((Bx l h).getD (2 * q) Dg.zero) ((Bx l h).getD (2 * q + 1) (At h)):=by
  rw [E3 (i:=2 * q) Aa Dg.zero (At h)];rfl
 have d1:=decide_eq_true e1
 (refine es 14 ?_;simp (maxSteps:=2000000) only [Mt,Lu,d1,w1,w2,w3,Cz,↓Ad,ex,Ro,AJ,AX,Ae,Nat.reduceLT,Int.reduceLE,Int.reduceLT,Nat.reducePow,Nat.reduceAnd,Nat.reduceOr,Nat.reduceShiftRight,Int.reduceToNat,reduceCtorEq,Nat.reduceAdd,Nat.reduceMul,Nat.reduceSub,Nat.reduceBEq,Nat.reduceEqDiff])
 refine ⟨by omega,by omega,by omega,by omega,by omega,by omega,by omega,fun e2=>?_,fun e2=>?_⟩
 ·have e2:=of_decide_eq_true e2
  refine ⟨⟨by omega,by omega⟩,by omega,by omega,hJ _ _ _ ?_⟩
  refine Ao.fr [0,1,2,581] [] hx AQ Am ?_ ?_
  ·simp only [Bo,Nat.reduceLT,reduceCtorEq,Nat.reduceEqDiff,Nat.reduceLeDiff,Nat.reduceBEq]
  ·simp only [Bo,Nat.reduceLT,reduceCtorEq,Nat.reduceEqDiff,Nat.reduceLeDiff,Nat.reduceBEq]
   exact ⟨fun _ _=>Bg _ _ _ _ _,fun i hi=>by rw [LE (by rw [hu,e1,e2];rfl) i hi];exact (AU _ _ _ _ _).mpr rfl⟩
 ·refine ⟨by omega,_,_,AE (Bl ok _ _) ⟨(AU _ _ _ _ _).mpr rfl,(AU _ _ _ _ _).mpr rfl,trivial⟩ rfl ⟨rfl,rfl⟩,?_⟩
  simp only [Cz,↓Ad,ex,Ro,AJ,AX,Ae,Nat.reduceLT,Int.reduceLE,Int.reduceLT,Nat.reducePow,Nat.reduceAnd,Nat.reduceOr,Nat.reduceShiftRight,Int.reduceToNat,reduceCtorEq,Nat.reduceAdd,Nat.reduceMul,Nat.reduceSub,Nat.reduceBEq,Nat.reduceEqDiff]
  refine ⟨by omega,.inr Aa,hJ _ _ _ ?_⟩
  refine Ao.fr [0,1,2,773] [] hx AQ Am ?_ ?_
  ·simp only [Bo,Nat.reduceLT,reduceCtorEq,Nat.reduceEqDiff,Nat.reduceLeDiff,Nat.reduceBEq]
  ·simp only [Bo,Nat.reduceLT,reduceCtorEq,Nat.reduceEqDiff,Nat.reduceLeDiff,Nat.reduceBEq]
   exact ⟨fun _ _=>Bg _ _ _ _ _,fun i hi=>by rw [LE hu i hi];exact (AU _ _ _ _ _).mpr rfl⟩
theorem Ab4 {x:Ctx} {Q:List V→Hp→Nat→Prop} (ok:OkM M) (hx:x.k=0) {d h:Nat} {q:Nat} {l:List Dg} (hd:d≤16) (hlt:(h:Int) < d) (hn:(Bx l h).length≤65536) (hlt2:((2 * q:Nat):Int) < (Bx l h).length)
 (e1:¬ (Bx l h).getD (2 * q) Dg.zero=At h) {rest:List It} {J:List V→Hp→Nat→Prop}
 (hJ:∀ A H N,Ao M x A H N (fr 99 [(5,.ptr 0 []),(6,.nili),(7,.ptr 1 []),(8,.sl 2 [] 0 (h + 1) 1),(9,.int .i64 h),(10,.sl 3 [] 0 (q + 1) 32),(11,.lst 32 (Bx l h).length (Fk (Bx l h))),(12,.int .i64 (2 * (q + 1):Nat)),(34,.int .i64 d),(35,.int .i64 h)])
  [(0,.ar 32 17 (fun _=>dg Dg.zero)),(1,.ar 32 17 (fun j=>dg (At j))),(2,.ar 1 (h + 1) (EH l)),(3,.ar 32 (q + 1) (fun j=>dg (Kr (At h) (Bx l h) j)))] 4→J A H N) :
 Bm M x Q (.code Mt :: .blk 4 :: .code Lu :: .inv J :: rest) 5 (fr 99 [(5,.ptr 0 []),(6,.nili),(7,.ptr 1 []),(8,.sl 2 [] 0 (h + 1) 1),(9,.int .i64 h),(10,.sl 3 [] 0 q 32),(11,.lst 32 (Bx l h).length (Fk (Bx l h))),(12,.int .i64 (2 * q:Nat)),(13,.ptr 4 []),(34,.int .i64 d),(35,.int .i64 h)])
  ((4,dg ((Bx l h).getD (2 * q + 1) (At h))) :: (0,.ar 32 17 (fun _=>dg Dg.zero)) :: (1,.ar 32 17 (fun j=>dg (At j))) :: (2,.ar 1 (h + 1) (EH l)) :: [(3,.ar 32 q (fun j=>dg (Kr (At h) (Bx l h) j)))]):=by
 have w1:IntKind.i64.wrap (((2 * q:Nat):Int) + 1)=((2 * q + 1:Nat):Int):=AZ
 have w2:IntKind.i64.wrap (((2 * q:Nat):Int) + 2)=((2 * (q + 1):Nat):Int):=AZ
 have w3:IntKind.i64.wrap ((h:Int) + 1)=((h + 1:Nat):Int):=AZ
 have hu:Kr (At h) (Bx l h) q=Ch ((Bx l h).getD (2 * q) Dg.zero) ((Bx l h).getD (2 * q + 1) (At h)):=by
  rw [E3 (i:=2 * q) Aa Dg.zero (At h)];rfl
 have d1:=decide_eq_false e1
 (refine es 14 ?_;simp (maxSteps:=2000000) only [Mt,Lu,d1,w1,w2,w3,Cz,↓Ad,ex,Ro,AJ,AX,Ae,Nat.reduceLT,Int.reduceLE,Int.reduceLT,Nat.reducePow,Nat.reduceAnd,Nat.reduceOr,Nat.reduceShiftRight,Int.reduceToNat,reduceCtorEq,Nat.reduceAdd,Nat.reduceMul,Nat.reduceSub,Nat.reduceBEq,Nat.reduceEqDiff])
 refine ⟨by omega,by omega,by omega,by omega,?_⟩
 ·refine ⟨by omega,_,_,AE (Bl ok _ _) ⟨(AU _ _ _ _ _).mpr rfl,(AU _ _ _ _ _).mpr rfl,trivial⟩ rfl ⟨rfl,rfl⟩,?_⟩
  simp only [Cz,↓Ad,ex,Ro,AJ,AX,Ae,Nat.reduceLT,Int.reduceLE,Int.reduceLT,Nat.reducePow,Nat.reduceAnd,Nat.reduceOr,Nat.reduceShiftRight,Int.reduceToNat,reduceCtorEq,Nat.reduceAdd,Nat.reduceMul,Nat.reduceSub,Nat.reduceBEq,Nat.reduceEqDiff]
  refine ⟨by omega,.inr Aa,hJ _ _ _ ?_⟩
  refine Ao.fr [0,1,2,773] [] hx AQ Am ?_ ?_
  ·simp only [Bo,Nat.reduceLT,reduceCtorEq,Nat.reduceEqDiff,Nat.reduceLeDiff,Nat.reduceBEq]
  ·simp only [Bo,Nat.reduceLT,reduceCtorEq,Nat.reduceEqDiff,Nat.reduceLeDiff,Nat.reduceBEq]
   exact ⟨fun _ _=>Bg _ _ _ _ _,fun i hi=>by rw [LE hu i hi];exact (AU _ _ _ _ _).mpr rfl⟩
theorem Aj9 {x:Ctx} {Q:List V→Hp→Nat→Prop} (ok:OkM M) (hx:x.k=0) {d h q:Nat} {l:List Dg} (hd:d≤16) (hlt:(h:Int) < d) (hn:(Bx l h).length≤65536) (hlt2:((2 * q:Nat):Int) < (Bx l h).length)
 {rest:List It} {J:List V→Hp→Nat→Prop}
 (hJ:∀ A H N,Ao M x A H N (fr 99 [(5,.ptr 0 []),(6,.nili),(7,.ptr 1 []),(8,.sl 2 [] 0 (h + 1) 1),(9,.int .i64 h),(10,if q + 1=0 then .nils else .sl 3 [] 0 (q + 1) 32),(11,.lst 32 (Bx l h).length (Fk (Bx l h))),(12,.int .i64 (2 * (q + 1):Nat)),(34,.int .i64 d),(35,.int .i64 h)])
  ((0,.ar 32 17 (fun _=>dg Dg.zero)) :: (1,.ar 32 17 (fun j=>dg (At j))) :: (2,.ar 1 (h + 1) (EH l)) :: (if q + 1=0 then [] else [(3,.ar 32 (q + 1) (fun j=>dg (Kr (At h) (Bx l h) j)))])) 4→J A H N) :
 Bm M x Q (.code Mt :: .blk 4 :: .code Lu :: .inv J :: rest) 5 (fr 99 [(5,.ptr 0 []),(6,.nili),(7,.ptr 1 []),(8,.sl 2 [] 0 (h + 1) 1),(9,.int .i64 h),(10,if q=0 then .nils else .sl 3 [] 0 q 32),(11,.lst 32 (Bx l h).length (Fk (Bx l h))),(12,.int .i64 (2 * q:Nat)),(13,.ptr 4 []),(34,.int .i64 d),(35,.int .i64 h)])
  ((4,dg ((Bx l h).getD (2 * q + 1) (At h))) :: (0,.ar 32 17 (fun _=>dg Dg.zero)) :: (1,.ar 32 17 (fun j=>dg (At j))) :: (2,.ar 1 (h + 1) (EH l)) :: (if q=0 then [] else [(3,.ar 32 q (fun j=>dg (Kr (At h) (Bx l h) j)))])):=by
 by_cases hq0:q=0
 ·subst hq0
  by_cases e1:(Bx l h).getD 0 Dg.zero=At h
  ·exact Adv ok hx hd hlt hn hlt2 e1 hJ
  ·exact Acu ok hx hd hlt hn hlt2 e1 hJ
 ·simp only [if_neg hq0]
  by_cases e1:(Bx l h).getD (2 * q) Dg.zero=At h
  ·exact Adt ok hx hd hlt hn hlt2 e1 hJ
  ·exact Ab4 ok hx hd hlt hn hlt2 e1 hJ
end Mv
