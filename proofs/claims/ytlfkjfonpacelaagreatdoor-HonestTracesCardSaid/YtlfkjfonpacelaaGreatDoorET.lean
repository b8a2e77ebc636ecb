/- A part. -/
import Derived.Test.YtlfkjfonpacelaaGreatDoorES
set_option linter.all false
set_option maxRecDepth 20000
set_option maxHeartbeats 4000000
namespace Mv
open Go
def At:Nat→Dg
 | 0=>Dg.zero
 | h + 1=>BW (At h) (At h)
theorem HQ {M:Seat} (ok:OkM M) :
 Af M 315 [] [] 0 (Q3 (.ar 32 17 (fun j=>dg (At j))) [] 0):=by
 refine Ab ok.k315 rfl fun x hx=>?_
 refine es 30 ?_
 simp only [Ak9,Anm,F1,↓Ad,ex,Ro,Bi,Bt,Ae,seval]
 refine An (σ:=Nat) (fun i=>1≤i∧i≤17) (fun i=>fr 19 [(0,.ptr 0 []),(1,.ptr 1 []),(2,.int .i64 i)])
  (fun i=>[(0,.ar 32 17 (fun _=>dg Dg.zero)),(1,.ar 32 17 (fun j=>dg (if j < i then At j else Dg.zero)))]) (fun _=>2) (fun i=>17 - i) 1 Aa ?_ ?_
 ·refine Ak.fr [0,16] [] hx AQ Aj ?_ ?_
  ·simp only [B2,seval]
  ·simp only [B2,seval,dg0]
   intro j hj
   by_cases h:j < 1
   ·rw [if_pos h];have:j=0:=Aa
    subst this;rfl
   ·rw [if_neg h]
 ·intro i ⟨hi1,hi⟩
  (refine es 40 ?_;simp (maxSteps:=2000000) only [El,↓Ad,ex,Ro,Bi,Bt,Ae,seval])
  refine ⟨fun hlt=>?_,fun hge=>?_⟩
  ·have hlt:(i:Int)≤16:=Ue
   have w1:IntKind.i64.wrap ((i:Int) - 1)=((i - 1:Nat):Int):=Bw
   have w2:IntKind.i64.wrap ((i:Int) + 1)=((i + 1:Nat):Int):=Bw
   simp only [w1,Int.toNat_natCast,if_pos (show i - 1 < i by omega)]
   repeat refine sd ?_
   refine ⟨_,_,Bv (BB ok _ _) ⟨(AW _ _ _ _ _).mpr rfl,(AW _ _ _ _ _).mpr rfl,trivial⟩ rfl ⟨rfl,rfl⟩,?_⟩
   simp only [F1,↓Ad,ex,Ro,Bi,Bt,Ae,seval]
   repeat refine sd ?_
   refine ⟨i + 1,⟨by omega,by omega⟩,by omega,?_⟩
   refine Ak.fr [0,1] [] hx AQ Aj ?_ ?_
   ·simp only [B2,seval,w2]
   ·simp only [B2,seval]
    intro j hj
    by_cases h1:j=i
    ·subst h1
     rw [if_pos rfl,if_pos Aa]
     obtain ⟨p,rfl⟩:∃ p,j=p + 1:=⟨j - 1,by omega⟩
     rfl
    ·rw [if_neg h1]
     by_cases h2:j < i
     ·rw [if_pos h2,if_pos Aa]
     ·rw [if_neg h2,if_neg Aa]
  ·have hge:¬ (i:Int)≤16:=T6
   have hi17:i=17:=Aa
   subst hi17
   refine Ap.mk hx [] [] (.ar 32 17 (fun j=>dg (At j))) [] 0 Aj ?_ ?_ trivial ⟨rfl,rfl,rfl⟩
   ·simp only [En,HK,F1,↓Ad,ex,Ro,Bi,Bt,Ae,seval]
   ·simp only [La6,LR,↓Ad,ex,Ro,Bi,Bt,Ae,seval]
    intro j hj
    rw [if_pos hj]
def Ah (a b:V):V:=.tup (.fcons 0 a (.fcons 1 b .fnil))
def CI (a b c:V):V:=.tup (.fcons 0 a (.fcons 1 b (.fcons 2 c .fnil)))
def Zq:=(aq7 @LU @La6 @dg.eq_1 @Ah.eq_1 @CI.eq_1 @GK.eq_1 @GK.eq_2)
theorem UT {M:Seat} (ok:OkM M) (h:Nat) (hh:h≤16) :
 Af M 197 [.int .i64 h] [] 0 (Q3 (Ah (dg (At h)) .nili) [] 0):=by
 refine Ab ok.k197 rfl fun x hx=>?_
 refine es 30 ?_
 simp only [Ak3,Al0,F1,↓Ad,ex,Ro,Bi,Bt,Ae,seval]
 have h1:decide ((h:Int) < 0)=false:=B1
 have h2:decide ((16:Int) < h)=false:=EP
 simp only [h1,h2,F1,↓Ad,ex,Ro,Bi,Bt,Ae,seval]
 refine Bv (HQ ok) trivial rfl ?_
 simp only [F1,↓Ad,ex,Ro,Bi,Bt,Ae,seval]
 repeat refine sd ?_
 refine Ap.mk hx [] [] (Ah (dg (At h)) .nili) [] 0 Aj ?_ ?_ trivial ⟨rfl,rfl,rfl⟩
 ·simp only [SB,HE,F1,↓Ad,ex,Ro,Bi,Bt,Ae,seval]
  rfl
 ·simp only [La6,GK,Ah,LR,↓Ad,ex,Ro,Bi,Bt,Ae,seval,dg]
variable {M:Seat}
def Lc (z:Dg) (l:List Dg) (q:Nat):Dg:=BW (l.getD (2 * q) z) (l.getD (2 * q + 1) z)
def up (z:Dg) (l:List Dg):List Dg:=(List.range ((l.length + 1) / 2)).map (Lc z l)
theorem Io (z:Dg) (l:List Dg):(up z l).length=(l.length + 1) / 2:=by simp [up]
theorem Adt (z:Dg) (l:List Dg) (q:Nat) (d:Dg) (h:q < (l.length + 1) / 2):(up z l).getD q d=Lc z l q:=by
 simp [up,List.getD,List.getElem?_map,List.getElem?_range h]
def BH (l:List Dg):Nat→List Dg
 | 0=>l
 | h + 1=>up (At h) (BH l h)
def row (l:List Dg):V:=.lst 32 l.length (IS l)
def FB (l:List Dg) (h:Nat):V:=if h=0 then row l else if BH l h=[] then .nils else row (BH l h)
theorem De (l:List Dg) (h:Nat):FB l h = .lst 32 (BH l h).length (IS (BH l h)) ∨ (FB l h = .nils∧BH l h=[]):=by
 unfold FB
 by_cases h0:h=0
 ·subst h0;exact .inl rfl
 ·rw [if_neg h0]
  by_cases h1:BH l h=[]
  ·exact .inr ⟨if_pos h1,h1⟩
  ·rw [if_neg h1];exact .inl rfl
theorem EG (l:List Dg) (h:Nat):(FB l h).solid=true:=by
 rcases De l h with e | ⟨e,_⟩ <;> rw [e] <;> rfl
theorem FK (l:List Dg) (h:Nat):(FB l h).size=1:=by
 rcases De l h with e | ⟨e,_⟩ <;> rw [e] <;> rfl
theorem HL (l:List Dg) (h:Nat):(FB l h).isAgg=false:=by
 rcases De l h with e | ⟨e,_⟩ <;> rw [e] <;> rfl
theorem Bo (H:Hp) (m z:List Nat) (l:List Dg) (h:Nat):Ar H m z (FB l h) (FB l h):=by
 rcases De l h with e | ⟨e,_⟩ <;> rw [e]
 ·simp only [Ar,true_and]
  exact fun j _=>(AW _ _ _ _ _).mpr rfl
 ·simp only [Ar]
theorem Gz (H:Hp) (m z:List Nat) (l:List Dg) (h:Nat):Bk H m z (FB l h) (FB l h):=by
 have h1:=Bo H m z l h
 rcases De l h with e | ⟨e,_⟩ <;> rw [e] at h1 ⊢ <;> exact h1
theorem SW {x:Ctx} {Q:List V→Hp→Nat→Prop} {k:List It} {P:Prop} (A':List V) (H':Hp) (N:Nat) (h:AK M x Q k N A' H') (f:AK M x Q k N A' H'→P):P:=f h
theorem NF (l:List Dg):∀ h,(BH l h).length≤l.length
 | 0=>Nat.le_refl _
 | h + 1 => by
   have:=NF l h
   simp only [BH,Io]
   omega
theorem Fj {l:List Dg} {i:Nat} (h:i < l.length) (a b:Dg):l.getD i a=l.getD i b:=by simp [List.getD,h]
theorem Ee {l:List Dg} {i:Nat} (h:l.length≤i) (a:Dg):l.getD i a=a:=by simp [List.getD,h]
theorem N7 {z:Dg} {L:List Dg} {q:Nat} {v:Dg} (hu:Lc z L q=v) (i:Nat) (hi:i < q + 1):(if i < q then dg (Lc z L i) else if i - q=0 then dg v else V.ar 1 32 (fun _=>V.int .u8 0))=dg (Lc z L i):=by
 by_cases h:i < q
 ·rw [if_pos h]
 ·have:i=q:=Aa
  subst this
  rw [if_neg h,if_pos Aa,hu]
theorem KH {z:Dg} {L:List Dg} {v:Dg} (hu:Lc z L 0=v) (i:Nat) (hi:i < 1):(if i=0 then dg v else V.ar 1 32 (fun _=>V.int .u8 0))=dg (Lc z L i):=by
 have:i=0:=Aa
 subst this
 rw [if_pos rfl,hu]
theorem Ad6 {d:Nat} (hd:d≤16):IntKind.i64.wrap (1 * 2 ^ min d IntKind.i64.bits)=((2 ^ d:Nat):Int):=by
 have e1:min d IntKind.i64.bits=d:=by simp only [IntKind.bits];omega
 have h2:2 ^ d≤2 ^ 16:=Nat.pow_le_pow_right Aa hd
 rw [e1,Int.one_mul]
 have e2:(2:Int) ^ d=((2 ^ d:Nat):Int):=by rw [Int.natCast_pow];rfl
 rw [e2]
 generalize 2 ^ d=P at h2 ⊢
 rw [B5 Aa]
def MY:LC:=(.seq (.regd [⟨0,0,⟨(some 61),.lo (.mv (.t 11)),none⟩⟩,
 ⟨1,0,⟨(some 62),.lo (.mv (.t 12)),none⟩⟩,
 ⟨2,3,⟨(some 63),.lo (.isl 32 (.t 61) (.t 62)),none⟩⟩,
 ⟨3,7,⟨(some 64),.lo (.load true 32 (.t 63)),none⟩⟩,
 ⟨4,0,⟨(some 65),.lo (.mv (.t 9)),none⟩⟩,
 ⟨5,16,⟨(some 66),.lo (.iarr 17 32 (.t 7) (.t 65)),none⟩⟩,
 ⟨6,48,⟨(some 67),.lo (.load true 32 (.t 66)),none⟩⟩,
 ⟨7,127,⟨(some 68),.lo (.eq false false (.ar 32 1 false .int) (.t 64) (.t 67)),none⟩⟩,
 ⟨8,255,⟨(some 69),.lo (.mv (.t 68)),none⟩⟩,
 ⟨9,511,⟨(some 70),.lo (.load true 32 (.t 13)),(some (69,true))⟩⟩,
 ⟨10,511,⟨(some 71),.lo (.mv (.t 9)),(some (69,true))⟩⟩,
 ⟨11,1535,⟨(some 72),.lo (.iarr 17 32 (.t 7) (.t 71)),(some (69,true))⟩⟩,
 ⟨12,3583,⟨(some 73),.lo (.load true 32 (.t 72)),(some (69,true))⟩⟩,
 ⟨13,8191,⟨(some 74),.lo (.eq false false (.ar 32 1 false .int) (.t 70) (.t 73)),(some (69,true))⟩⟩,
 ⟨14,16383,⟨(some 75),.lo (.pick (.t 69) (.t 74) (.c (.bool false))),none⟩⟩])
 (.cond (.t 75) (.reg [⟨(some 76),.lo (.mv (.t 10)),none⟩,
  ⟨(some 77),.lo (.mv (.t 9)),none⟩,
  ⟨(some 78),.lo (.ari .add (.t 77) (.c (.int .i64 1))),none⟩,
  ⟨(some 79),.lo (.iarr 17 32 (.t 7) (.t 78)),none⟩,
  ⟨(some 80),.lo (.load true 32 (.t 79)),none⟩,
  ⟨(some 81),.lo (.bsl 32 1 (.ar 32 (.int .u8)) [(.i 32 0,32,(.t 80))]),none⟩,
  ⟨(some 82),.lo (.app 32 32 (.t 76) (.t 81)),none⟩,
  ⟨(some 10),.lo (.mv (.t 82)),none⟩]) (.regd [⟨1,0,⟨(some 84),.lo (.mv (.t 11)),none⟩⟩,
  ⟨2,0,⟨(some 85),.lo (.mv (.t 12)),none⟩⟩,
  ⟨3,3,⟨(some 86),.lo (.isl 32 (.t 84) (.t 85)),none⟩⟩,
  ⟨4,7,⟨(some 87),.lo (.load true 32 (.t 86)),none⟩⟩,
  ⟨5,0,⟨(some 88),.lo (.load true 32 (.t 13)),none⟩⟩,
  ⟨6,31,⟨(some 89),.call 207 [(.t 87),(.t 88)],none⟩⟩,
  ⟨0,0,⟨(some 83),.lo (.mv (.t 10)),none⟩⟩,
  ⟨7,63,⟨(some 90),.lo (.bsl 32 1 (.ar 32 (.int .u8)) [(.i 32 0,32,(.t 89))]),none⟩⟩,
  ⟨8,255,⟨(some 91),.lo (.app 32 32 (.t 83) (.t 90)),none⟩⟩,
  ⟨9,511,⟨(some 10),.lo (.mv (.t 91)),none⟩⟩])))
def MK:LC:=(.reg [⟨(some 46),.lo (.mv (.t 12)),none⟩,
 ⟨(some 47),.lo (.ari .add (.t 46) (.c (.int .i64 2))),none⟩,
 ⟨(some 12),.lo (.mv (.t 47)),none⟩])
theorem Afu {x:Ctx} {Q:List V→Hp→Nat→Prop} (ok:OkM M) (hx:x.k=0) {d h:Nat} {l:List Dg} (hd:d≤16) (hlt:(h:Int) < d) (hn:(BH l h).length≤65536) (hlt2:(0:Int) < (BH l h).length)
 (e1:(BH l h).getD 0 Dg.zero=At h) {rest:List It} {J:List V→Hp→Nat→Prop}
 (hJ:∀ A H N,Ak M x A H N (fr 99 [(5,.ptr 0 []),(6,.nili),(7,.ptr 1 []),(8,.sl 2 [] 0 (h + 1) 1),(9,.int .i64 h),(10,.sl 3 [] 0 1 32),(11,.lst 32 (BH l h).length (IS (BH l h))),(12,.int .i64 2),(34,.int .i64 d),(35,.int .i64 h)])
  [(0,.ar 32 17 (fun _=>dg Dg.zero)),(1,.ar 32 17 (fun j=>dg (At j))),(2,.ar 1 (h + 1) (FB l)),(3,.ar 32 1 (fun j=>dg (Lc (At h) (BH l h) j)))] 4→J A H N) :
 AK M x Q (.code MY :: .blk 4 :: .code MK :: .inv J :: rest) 5 (fr 99 [(5,.ptr 0 []),(6,.nili),(7,.ptr 1 []),(8,.sl 2 [] 0 (h + 1) 1),(9,.int .i64 h),(10,.nils),(11,.lst 32 (BH l h).length (IS (BH l h))),(12,.int .i64 0),(13,.ptr 4 []),(34,.int .i64 d),(35,.int .i64 h)])
  ((4,dg ((BH l h).getD 1 (At h))) :: (0,.ar 32 17 (fun _=>dg Dg.zero)) :: (1,.ar 32 17 (fun j=>dg (At j))) :: (2,.ar 1 (h + 1) (FB l)) :: []):=by
 have w1:IntKind.i64.wrap ((0:Int) + 1)=1:=rfl
 have w2:IntKind.i64.wrap ((0:Int) + 2)=2:=rfl
 have w3:IntKind.i64.wrap ((h:Int) + 1)=((h + 1:Nat):Int):=Bw
 have hu:Lc (At h) (BH l h) 0=BW ((BH l h).getD 0 Dg.zero) ((BH l h).getD 1 (At h)):=by
  rw [Fj (i:=0) Aa Dg.zero (At h)];rfl
 have d1:=decide_eq_true e1
 (refine es 14 ?_;simp (maxSteps:=2000000) only [MY,MK,d1,w1,w2,w3,El,↓Ad,ex,Ro,Bi,Bt,Ae,Nat.reduceLT,Int.reduceLE,Int.reduceLT,Nat.reducePow,Nat.reduceAnd,Nat.reduceOr,Nat.reduceShiftRight,Int.reduceToNat,reduceCtorEq,Nat.reduceAdd,Nat.reduceMul,Nat.reduceSub,Nat.reduceBEq,Nat.reduceEqDiff])
 refine ⟨by omega,by omega,by omega,by omega,by omega,by omega,by omega,fun e2=>?_,fun e2=>?_⟩
 ·have e2:=of_decide_eq_true e2
  refine ⟨⟨by omega,by omega⟩,by omega,by omega,hJ _ _ _ ?_⟩
  refine Ak.fr [0,1,2,581] [] hx AQ Aj ?_ ?_
  ·simp only [B2,Nat.reduceLT,reduceCtorEq,Nat.reduceEqDiff,Nat.reduceLeDiff,Nat.reduceBEq]
  ·simp only [B2,Nat.reduceLT,reduceCtorEq,Nat.reduceEqDiff,Nat.reduceLeDiff,Nat.reduceBEq]
   exact ⟨fun _ _=>Bo _ _ _ _ _,fun i hi=>by rw [KH (by rw [hu,e1,e2];rfl) i hi];exact (AW _ _ _ _ _).mpr rfl⟩
 ·refine ⟨by omega,_,_,Bv (BB ok _ _) ⟨(AW _ _ _ _ _).mpr rfl,(AW _ _ _ _ _).mpr rfl,trivial⟩ rfl ⟨rfl,rfl⟩,?_⟩
  simp only [El,↓Ad,ex,Ro,Bi,Bt,Ae,Nat.reduceLT,Int.reduceLE,Int.reduceLT,Nat.reducePow,Nat.reduceAnd,Nat.reduceOr,Nat.reduceShiftRight,Int.reduceToNat,reduceCtorEq,Nat.reduceAdd,Nat.reduceMul,Nat.reduceSub,Nat.reduceBEq,Nat.reduceEqDiff]
  refine ⟨by omega,.inr Aa,hJ _ _ _ ?_⟩
  refine Ak.fr [0,1,2,773] [] hx AQ Aj ?_ ?_
  ·simp only [B2,Nat.reduceLT,reduceCtorEq,Nat.reduceEqDiff,Nat.reduceLeDiff,Nat.reduceBEq]
  ·simp only [B2,Nat.reduceLT,reduceCtorEq,Nat.reduceEqDiff,Nat.reduceLeDiff,Nat.reduceBEq]
   exact ⟨fun _ _=>Bo _ _ _ _ _,fun i hi=>by rw [KH hu i hi];exact (AW _ _ _ _ _).mpr rfl⟩
theorem Aex {x:Ctx} {Q:List V→Hp→Nat→Prop} (ok:OkM M) (hx:x.k=0) {d h:Nat} {l:List Dg} (hd:d≤16) (hlt:(h:Int) < d) (hn:(BH l h).length≤65536) (hlt2:(0:Int) < (BH l h).length)
 (e1:¬ (BH l h).getD 0 Dg.zero=At h) {rest:List It} {J:List V→Hp→Nat→Prop}
 (hJ:∀ A H N,Ak M x A H N (fr 99 [(5,.ptr 0 []),(6,.nili),(7,.ptr 1 []),(8,.sl 2 [] 0 (h + 1) 1),(9,.int .i64 h),(10,.sl 3 [] 0 1 32),(11,.lst 32 (BH l h).length (IS (BH l h))),(12,.int .i64 2),(34,.int .i64 d),(35,.int .i64 h)])
  [(0,.ar 32 17 (fun _=>dg Dg.zero)),(1,.ar 32 17 (fun j=>dg (At j))),(2,.ar 1 (h + 1) (FB l)),(3,.ar 32 1 (fun j=>dg (Lc (At h) (BH l h) j)))] 4→J A H N) :
 AK M x Q (.code MY :: .blk 4 :: .code MK :: .inv J :: rest) 5 (fr 99 [(5,.ptr 0 []),(6,.nili),(7,.ptr 1 []),(8,.sl 2 [] 0 (h + 1) 1),(9,.int .i64 h),(10,.nils),(11,.lst 32 (BH l h).length (IS (BH l h))),(12,.int .i64 0),(13,.ptr 4 []),(34,.int .i64 d),(35,.int .i64 h)])
  ((4,dg ((BH l h).getD 1 (At h))) :: (0,.ar 32 17 (fun _=>dg Dg.zero)) :: (1,.ar 32 17 (fun j=>dg (At j))) :: (2,.ar 1 (h + 1) (FB l)) :: []):=by
 have w1:IntKind.i64.wrap ((0:Int) + 1)=1:=rfl
 have w2:IntKind.i64.wrap ((0:Int) + 2)=2:=rfl
 have w3:IntKind.i64.wrap ((h:Int) + 1)=((h + 1:Nat):Int):=Bw
 have hu:Lc (At h) (BH l h) 0=BW ((BH l h).getD 0 Dg.zero) ((BH l h).getD 1 (At h)):=by
  rw [Fj (i:=0) Aa Dg.zero (At h)];rfl
 have d1:=decide_eq_false e1
 (refine es 14 ?_;simp (maxSteps:=2000000) only [MY,MK,d1,w1,w2,w3,El,↓Ad,ex,Ro,Bi,Bt,Ae,Nat.reduceLT,Int.reduceLE,Int.reduceLT,Nat.reducePow,Nat.reduceAnd,Nat.reduceOr,Nat.reduceShiftRight,Int.reduceToNat,reduceCtorEq,Nat.reduceAdd,Nat.reduceMul,Nat.reduceSub,Nat.reduceBEq,Nat.reduceEqDiff])
 refine ⟨by omega,by omega,by omega,by omega,?_⟩
 ·refine ⟨by omega,_,_,Bv (BB ok _ _) ⟨(AW _ _ _ _ _).mpr rfl,(AW _ _ _ _ _).mpr rfl,trivial⟩ rfl ⟨rfl,rfl⟩,?_⟩
  simp only [El,↓Ad,ex,Ro,Bi,Bt,Ae,Nat.reduceLT,Int.reduceLE,Int.reduceLT,Nat.reducePow,Nat.reduceAnd,Nat.reduceOr,Nat.reduceShiftRight,Int.reduceToNat,reduceCtorEq,Nat.reduceAdd,Nat.reduceMul,Nat.reduceSub,Nat.reduceBEq,Nat.reduceEqDiff]
  refine ⟨by omega,.inr Aa,hJ _ _ _ ?_⟩
  refine Ak.fr [0,1,2,773] [] hx AQ Aj ?_ ?_
  ·simp only [B2,Nat.reduceLT,reduceCtorEq,Nat.reduceEqDiff,Nat.reduceLeDiff,Nat.reduceBEq]
  ·simp only [B2,Nat.reduceLT,reduceCtorEq,Nat.reduceEqDiff,Nat.reduceLeDiff,Nat.reduceBEq]
   exact ⟨fun _ _=>Bo _ _ _ _ _,fun i hi=>by rw [KH hu i hi];exact (AW _ _ _ _ _).mpr rfl⟩
theorem Aid {x:Ctx} {Q:List V→Hp→Nat→Prop} (ok:OkM M) (hx:x.k=0) {d h:Nat} {q:Nat} {l:List Dg} (hd:d≤16) (hlt:(h:Int) < d) (hn:(BH l h).length≤65536) (hlt2:((2 * q:Nat):Int) < (BH l h).length)
 (e1:(BH l h).getD (2 * q) Dg.zero=At h) {rest:List It} {J:List V→Hp→Nat→Prop}
 (hJ:∀ A H N,Ak M x A H N (fr 99 [(5,.ptr 0 []),(6,.nili),(7,.ptr 1 []),(8,.sl 2 [] 0 (h + 1) 1),(9,.int .i64 h),(10,.sl 3 [] 0 (q + 1) 32),(11,.lst 32 (BH l h).length (IS (BH l h))),(12,.int .i64 (2 * (q + 1):Nat)),(34,.int .i64 d),(35,.int .i64 h)])
  [(0,.ar 32 17 (fun _=>dg Dg.zero)),(1,.ar 32 17 (fun j=>dg (At j))),(2,.ar 1 (h + 1) (FB l)),(3,.ar 32 (q + 1) (fun j=>dg (Lc (At h) (BH l h) j)))] 4→J A H N) :
 AK M x Q (.code MY :: .blk 4 :: .code MK :: .inv J :: rest) 5 (fr 99 [(5,.ptr 0 []),(6,.nili),(7,.ptr 1 []),(8,.sl 2 [] 0 (h + 1) 1),(9,.int .i64 h),(10,.sl 3 [] 0 q 32),(11,.lst 32 (BH l h).length (IS (BH l h))),(12,.int .i64 (2 * q:Nat)),(13,.ptr 4 []),(34,.int .i64 d),(35,.int .i64 h)])
  ((4,dg ((BH l h).getD (2 * q + 1) (At h))) :: (0,.ar 32 17 (fun _=>dg Dg.zero)) :: (1,.ar 32 17 (fun j=>dg (At j))) :: (2,.ar 1 (h + 1) (FB l)) :: [(3,.ar 32 q (fun j=>dg (Lc (At h) (BH l h) j)))]):=by
 have w1:IntKind.i64.wrap (((2 * q:Nat):Int) + 1)=((2 * q + 1:Nat):Int):=Bw
 have w2:IntKind.i64.wrap (((2 * q:Nat):Int) + 2)=((2 * (q + 1):Nat):Int):=Bw
 have w3:IntKind.i64.wrap ((h:Int) + 1)=((h + 1:Nat):Int):=Bw
 have hu:Lc (At h) (BH l h) q=BW ((BH l h).getD (2 * q) Dg.zero) ((BH l h).getD (2 * q + 1) (At h)):=by
  rw [Fj (i:=2 * q) Aa Dg.zero (At h)];rfl
 have d1:=decide_eq_true e1
 (refine es 14 ?_;simp (maxSteps:=2000000) only [MY,MK,d1,w1,w2,w3,El,↓Ad,ex,Ro,Bi,Bt,Ae,Nat.reduceLT,Int.reduceLE,Int.reduceLT,Nat.reducePow,Nat.reduceAnd,Nat.reduceOr,Nat.reduceShiftRight,Int.reduceToNat,reduceCtorEq,Nat.reduceAdd,Nat.reduceMul,Nat.reduceSub,Nat.reduceBEq,Nat.reduceEqDiff])
 refine ⟨by omega,by omega,by omega,by omega,by omega,by omega,by omega,fun e2=>?_,fun e2=>?_⟩
 ·have e2:=of_decide_eq_true e2
  refine ⟨⟨by omega,by omega⟩,by omega,by omega,hJ _ _ _ ?_⟩
  refine Ak.fr [0,1,2,581] [] hx AQ Aj ?_ ?_
  ·simp only [B2,Nat.reduceLT,reduceCtorEq,Nat.reduceEqDiff,Nat.reduceLeDiff,Nat.reduceBEq]
  ·simp only [B2,Nat.reduceLT,reduceCtorEq,Nat.reduceEqDiff,Nat.reduceLeDiff,Nat.reduceBEq]
   exact ⟨fun _ _=>Bo _ _ _ _ _,fun i hi=>by rw [N7 (by rw [hu,e1,e2];rfl) i hi];exact (AW _ _ _ _ _).mpr rfl⟩
 ·refine ⟨by omega,_,_,Bv (BB ok _ _) ⟨(AW _ _ _ _ _).mpr rfl,(AW _ _ _ _ _).mpr rfl,trivial⟩ rfl ⟨rfl,rfl⟩,?_⟩
  simp only [El,↓Ad,ex,Ro,Bi,Bt,Ae,Nat.reduceLT,Int.reduceLE,Int.reduceLT,Nat.reducePow,Nat.reduceAnd,Nat.reduceOr,Nat.reduceShiftRight,Int.reduceToNat,reduceCtorEq,Nat.reduceAdd,Nat.reduceMul,Nat.reduceSub,Nat.reduceBEq,Nat.reduceEqDiff]
  refine ⟨by omega,.inr Aa,hJ _ _ _ ?_⟩
  refine Ak.fr [0,1,2,773] [] hx AQ Aj ?_ ?_
  ·simp only [B2,Nat.reduceLT,reduceCtorEq,Nat.reduceEqDiff,Nat.reduceLeDiff,Nat.reduceBEq]
  ·simp only [B2,Nat.reduceLT,reduceCtorEq,Nat.reduceEqDiff,Nat.reduceLeDiff,Nat.reduceBEq]
   exact ⟨fun _ _=>Bo _ _ _ _ _,fun i hi=>by rw [N7 hu i hi];exact (AW _ _ _ _ _).mpr rfl⟩
theorem Aeh {x:Ctx} {Q:List V→Hp→Nat→Prop} (ok:OkM M) (hx:x.k=0) {d h:Nat} {q:Nat} {l:List Dg} (hd:d≤16) (hlt:(h:Int) < d) (hn:(BH l h).length≤65536) (hlt2:((2 * q:Nat):Int) < (BH l h).length)
 (e1:¬ (BH l h).getD (2 * q) Dg.zero=At h) {rest:List It} {J:List V→Hp→Nat→Prop}
 (hJ:∀ A H N,Ak M x A H N (fr 99 [(5,.ptr 0 []),(6,.nili),(7,.ptr 1 []),(8,.sl 2 [] 0 (h + 1) 1),(9,.int .i64 h),(10,.sl 3 [] 0 (q + 1) 32),(11,.lst 32 (BH l h).length (IS (BH l h))),(12,.int .i64 (2 * (q + 1):Nat)),(34,.int .i64 d),(35,.int .i64 h)])
  [(0,.ar 32 17 (fun _=>dg Dg.zero)),(1,.ar 32 17 (fun j=>dg (At j))),(2,.ar 1 (h + 1) (FB l)),(3,.ar 32 (q + 1) (fun j=>dg (Lc (At h) (BH l h) j)))] 4→J A H N) :
 AK M x Q (.code MY :: .blk 4 :: .code MK :: .inv J :: rest) 5 (fr 99 [(5,.ptr 0 []),(6,.nili),(7,.ptr 1 []),(8,.sl 2 [] 0 (h + 1) 1),(9,.int .i64 h),(10,.sl 3 [] 0 q 32),(11,.lst 32 (BH l h).length (IS (BH l h))),(12,.int .i64 (2 * q:Nat)),(13,.ptr 4 []),(34,.int .i64 d),(35,.int .i64 h)])
  ((4,dg ((BH l h).getD (2 * q + 1) (At h))) :: (0,.ar 32 17 (fun _=>dg Dg.zero)) :: (1,.ar 32 17 (fun j=>dg (At j))) :: (2,.ar 1 (h + 1) (FB l)) :: [(3,.ar 32 q (fun j=>dg (Lc (At h) (BH l h) j)))]):=by
 have w1:IntKind.i64.wrap (((2 * q:Nat):Int) + 1)=((2 * q + 1:Nat):Int):=Bw
 have w2:IntKind.i64.wrap (((2 * q:Nat):Int) + 2)=((2 * (q + 1):Nat):Int):=Bw
 have w3:IntKind.i64.wrap ((h:Int) + 1)=((h + 1:Nat):Int):=Bw
 have hu:Lc (At h) (BH l h) q=BW ((BH l h).getD (2 * q) Dg.zero) ((BH l h).getD (2 * q + 1) (At h)):=by
  rw [Fj (i:=2 * q) Aa Dg.zero (At h)];rfl
 have d1:=decide_eq_false e1
 (refine es 14 ?_;simp (maxSteps:=2000000) only [MY,MK,d1,w1,w2,w3,El,↓Ad,ex,Ro,Bi,Bt,Ae,Nat.reduceLT,Int.reduceLE,Int.reduceLT,Nat.reducePow,Nat.reduceAnd,Nat.reduceOr,Nat.reduceShiftRight,Int.reduceToNat,reduceCtorEq,Nat.reduceAdd,Nat.reduceMul,Nat.reduceSub,Nat.reduceBEq,Nat.reduceEqDiff])
 refine ⟨by omega,by omega,by omega,by omega,?_⟩
 ·refine ⟨by omega,_,_,Bv (BB ok _ _) ⟨(AW _ _ _ _ _).mpr rfl,(AW _ _ _ _ _).mpr rfl,trivial⟩ rfl ⟨rfl,rfl⟩,?_⟩
  simp only [El,↓Ad,ex,Ro,Bi,Bt,Ae,Nat.reduceLT,Int.reduceLE,Int.reduceLT,Nat.reducePow,Nat.reduceAnd,Nat.reduceOr,Nat.reduceShiftRight,Int.reduceToNat,reduceCtorEq,Nat.reduceAdd,Nat.reduceMul,Nat.reduceSub,Nat.reduceBEq,Nat.reduceEqDiff]
  refine ⟨by omega,.inr Aa,hJ _ _ _ ?_⟩
  refine Ak.fr [0,1,2,773] [] hx AQ Aj ?_ ?_
  ·simp only [B2,Nat.reduceLT,reduceCtorEq,Nat.reduceEqDiff,Nat.reduceLeDiff,Nat.reduceBEq]
  ·simp only [B2,Nat.reduceLT,reduceCtorEq,Nat.reduceEqDiff,Nat.reduceLeDiff,Nat.reduceBEq]
   exact ⟨fun _ _=>Bo _ _ _ _ _,fun i hi=>by rw [N7 hu i hi];exact (AW _ _ _ _ _).mpr rfl⟩
theorem Aqk {x:Ctx} {Q:List V→Hp→Nat→Prop} (ok:OkM M) (hx:x.k=0) {d h q:Nat} {l:List Dg} (hd:d≤16) (hlt:(h:Int) < d) (hn:(BH l h).length≤65536) (hlt2:((2 * q:Nat):Int) < (BH l h).length)
 {rest:List It} {J:List V→Hp→Nat→Prop}
 (hJ:∀ A H N,Ak M x A H N (fr 99 [(5,.ptr 0 []),(6,.nili),(7,.ptr 1 []),(8,.sl 2 [] 0 (h + 1) 1),(9,.int .i64 h),(10,if q + 1=0 then .nils else .sl 3 [] 0 (q + 1) 32),(11,.lst 32 (BH l h).length (IS (BH l h))),(12,.int .i64 (2 * (q + 1):Nat)),(34,.int .i64 d),(35,.int .i64 h)])
  ((0,.ar 32 17 (fun _=>dg Dg.zero)) :: (1,.ar 32 17 (fun j=>dg (At j))) :: (2,.ar 1 (h + 1) (FB l)) :: (if q + 1=0 then [] else [(3,.ar 32 (q + 1) (fun j=>dg (Lc (At h) (BH l h) j)))])) 4→J A H N) :
 AK M x Q (.code MY :: .blk 4 :: .code MK :: .inv J :: rest) 5 (fr 99 [(5,.ptr 0 []),(6,.nili),(7,.ptr 1 []),(8,.sl 2 [] 0 (h + 1) 1),(9,.int .i64 h),(10,if q=0 then .nils else .sl 3 [] 0 q 32),(11,.lst 32 (BH l h).length (IS (BH l h))),(12,.int .i64 (2 * q:Nat)),(13,.ptr 4 []),(34,.int .i64 d),(35,.int .i64 h)])
  ((4,dg ((BH l h).getD (2 * q + 1) (At h))) :: (0,.ar 32 17 (fun _=>dg Dg.zero)) :: (1,.ar 32 17 (fun j=>dg (At j))) :: (2,.ar 1 (h + 1) (FB l)) :: (if q=0 then [] else [(3,.ar 32 q (fun j=>dg (Lc (At h) (BH l h) j)))])):=by
 by_cases hq0:q=0
 ·subst hq0
  by_cases e1:(BH l h).getD 0 Dg.zero=At h
  ·exact Afu ok hx hd hlt hn hlt2 e1 hJ
  ·exact Aex ok hx hd hlt hn hlt2 e1 hJ
 ·simp only [if_neg hq0]
  by_cases e1:(BH l h).getD (2 * q) Dg.zero=At h
  ·exact Aid ok hx hd hlt hn hlt2 e1 hJ
  ·exact Aeh ok hx hd hlt hn hlt2 e1 hJ
theorem IM {M:Seat} (ok:OkM M) (d:Nat) (hd:d≤16) (l:List Dg) (hl:l.length≤2 ^ d) :
 Af M 316 [.int .i64 d,row l] [] 0 (Q3 (CI (.sl 0 [] 0 (d + 1) 1) (.ar 32 17 (fun j=>dg (At j))) .nili) [(0,.ar 1 (d + 1) (FB l))] 1):=by
 refine Ab ok.k316 rfl fun x hx=>?_
 refine es 30 ?_
 simp only [Ang,Am7,row,F1,↓Ad,ex,Ro,Bi,Bt,Ae,seval]
 refine Bv (HQ ok) trivial rfl ?_
 simp only [F1,↓Ad,ex,Ro,Bi,Bt,Ae,seval]
 have h1:decide ((d:Int) < 0)=false:=B1
 have h2:decide ((16:Int) < d)=false:=EP
 simp only [h1,h2,F1,↓Ad,ex,Ro,Bi,Bt,Ae,seval]
 refine ⟨by omega,fun hgt=>?_,fun _=>?_⟩
 ·exfalso
  have hgt:IntKind.i64.wrap (1 * 2 ^ min d IntKind.i64.bits) < l.length:=by simpa using hgt
  rw [Ad6 hd] at hgt
  omega
 refine An (σ:=Nat) (fun h=>h≤d) (fun h=>fr 99 [(5,.ptr 0 []),(6,.nili),(7,.ptr 1 []),(8,.sl 2 [] 0 (h + 1) 1),(34,.int .i64 d),(35,.int .i64 h)])
  (fun h=>[(0,.ar 32 17 (fun _=>dg Dg.zero)),(1,.ar 32 17 (fun j=>dg (At j))),(2,.ar 1 (h + 1) (FB l))]) (fun _=>3) (fun h=>d - h) 0 Aa ?_ ?_
 ·refine Ak.fr [16,64,320] [] hx AQ Aj ?_ ?_
  ·simp only [B2,seval]
  ·simp only [B2,seval,dg0]
   intro j hj
   have:j=0:=Aa
   subst this
   simp only [FB,row,B2,seval]
 ·intro h hh
  (refine es 40 ?_;simp (maxSteps:=2000000) only [El,↓Ad,ex,Ro,Bi,Bt,Ae,seval])
  refine ⟨fun hlt=>?_,fun hge=>?_⟩
  ·have hlt:(h:Int) < d:=Ue
   simp only [EG,FK,HL,F1,↓Ad,ex,Ro,Bi,Bt,Ae,seval]
   repeat refine sd ?_
   refine An (σ:=Nat) (fun q=>q≤((BH l h).length + 1) / 2) (fun q=>fr 99 [(5,.ptr 0 []),(6,.nili),(7,.ptr 1 []),(8,.sl 2 [] 0 (h + 1) 1),(9,.int .i64 h),(10,if q=0 then .nils else .sl 3 [] 0 q 32),(11,FB l h),(12,.int .i64 (2 * q:Nat)),(34,.int .i64 d),(35,.int .i64 h)])
    (fun q=>(0,.ar 32 17 (fun _=>dg Dg.zero)) :: (1,.ar 32 17 (fun j=>dg (At j))) :: (2,.ar 1 (h + 1) (FB l)) :: (if q=0 then [] else [(3,.ar 32 q (fun j=>dg (Lc (At h) (BH l h) j)))])) (fun _=>4) (fun q=>(BH l h).length + 1 - q) 0 Aa ?_ ?_
   ·refine Ak.fr [0,1,2] [] hx AQ Aj ?_ ?_
    ·simp only [B2,seval]
     first | exact ⟨Gz _ _ _ _ _,rfl⟩ | exact Gz _ _ _ _ _
    ·simp only [B2,seval]
     exact fun _ _=>Bo _ _ _ _ _
   ·intro q hq
    rcases De l h with hv | ⟨hv,hL⟩
    ·simp only [hv]
     (refine es 14 ?_;simp (maxSteps:=2000000) only [El,↓Ad,ex,Ro,Bi,Bt,Ae,seval])
     have hn:(BH l h).length≤65536:=Nat.le_trans (NF l h) (Nat.le_trans hl (Nat.pow_le_pow_right (n:=2) Aa hd))
     refine ⟨fun hlt2=>?_,fun hge2=>?_⟩
     ·have hlt2:((2 * q:Nat):Int) < (BH l h).length:=of_decide_eq_true hlt2
      have w1:IntKind.i64.wrap (((2 * q:Nat):Int) + 1)=((2 * q + 1:Nat):Int):=Bw
      have w2:IntKind.i64.wrap (((2 * q:Nat):Int) + 2)=((2 * (q + 1):Nat):Int):=Bw
      have w3:IntKind.i64.wrap ((h:Int) + 1)=((h + 1:Nat):Int):=Bw
      simp only [w1,Int.toNat_natCast]
      refine SW (fr 99 [(5,.ptr 0 []),(6,.nili),(7,.ptr 1 []),(8,.sl 2 [] 0 (h + 1) 1),(9,.int .i64 h),(10,if q=0 then .nils else .sl 3 [] 0 q 32),(11,.lst 32 (BH l h).length (IS (BH l h))),(12,.int .i64 (2 * q:Nat)),(13,.ptr 4 []),(34,.int .i64 d),(35,.int .i64 h)])
       ((4,dg ((BH l h).getD (2 * q + 1) (At h))) :: (0,.ar 32 17 (fun _=>dg Dg.zero)) :: (1,.ar 32 17 (fun j=>dg (At j))) :: (2,.ar 1 (h + 1) (FB l)) :: (if q=0 then [] else [(3,.ar 32 q (fun j=>dg (Lc (At h) (BH l h) j)))])) 5 ?_
       (fun key=>⟨⟨by omega,by omega⟩,by omega,fun ho=>⟨⟨by omega,of_decide_eq_true ho⟩,AK.weak _ _ _ ?_ key⟩,fun ho=>AK.weak _ _ _ ?_ key⟩)
      ·exact Aqk ok hx hd hlt hn hlt2 (fun A H N hw=>⟨q + 1,by omega,by omega,hw⟩)
      ·have ho:=of_decide_eq_true ho
       refine Ak.fr [0,1,2,3,116] [] hx AQ Aj ?_ ?_
       ·simp only [B2,seval]
        by_cases hq0:q=0
        ·simp only [if_pos hq0,B2,seval]
        ·simp only [if_neg hq0,B2,seval]
       ·simp only [B2,seval]
        refine ⟨Fj Aa _ _,fun _ _=>Bo _ _ _ _ _,?_⟩
        by_cases hq0:q=0
        ·simp only [if_pos hq0,B2,seval]
        ·simp only [if_neg hq0,B2,seval]
      ·have ho:=of_decide_eq_false ho
       refine Ak.fr [0,1,2,3,116] [] hx AQ Aj ?_ ?_
       ·simp only [B2,seval]
        by_cases hq0:q=0
        ·simp only [if_pos hq0,B2,seval]
        ·simp only [if_neg hq0,B2,seval]
       ·simp only [B2,seval]
        refine ⟨(Ee Aa _).symm,fun _ _=>Bo _ _ _ _ _,?_⟩
        by_cases hq0:q=0
        ·simp only [if_pos hq0,B2,seval]
        ·simp only [if_neg hq0,B2,seval]
     ·have hge2:¬ ((2 * q:Nat):Int) < (BH l h).length:=of_decide_eq_false hge2
      have hqe:q=((BH l h).length + 1) / 2:=Aa
      have w3:IntKind.i64.wrap ((h:Int) + 1)=((h + 1:Nat):Int):=Bw
      by_cases hq0:q=0
      ·simp only [if_pos hq0,El,↓Ad,ex,Ro,Bi,Bt,Ae,seval]
       repeat refine sd ?_
       refine ⟨h + 1,by omega,by omega,?_⟩
       refine Ak.fr [0,1,116] [] hx AQ Aj ?_ ?_
       ·simp only [B2,seval,w3]
       ·simp only [B2,seval]
        have hup:BH l (h + 1)=[]:=List.length_eq_zero_iff.mp (by rw [BH,Io];omega)
        intro i hi
        by_cases h2:i < h + 1
        ·rw [if_pos h2];exact Bo _ _ _ _ _
        ·have:i=h + 1:=Aa
         subst this
         simp only [FB,hup,if_neg (Nat.add_one_ne_zero h),C2,Nat.lt_irrefl,Ar,ite_self]
      ·simp only [if_neg hq0,El,↓Ad,ex,Ro,Bi,Bt,Ae,seval]
       repeat refine sd ?_
       refine ⟨h + 1,by omega,by omega,?_⟩
       refine Ak.fr [0,1,116] [3] hx AQ Aj ?_ ?_
       ·simp only [B2,seval,w3]
       ·simp only [B2,seval]
        have hlen:(BH l (h + 1)).length=q:=by rw [BH,Io];omega
        have hup:BH l (h + 1) ≠ []:=fun h=>by rw [h] at hlen;exact hq0 hlen.symm
        intro i hi
        by_cases h2:i < h + 1
        ·rw [if_pos h2];exact Bo _ _ _ _ _
        ·have:i=h + 1:=Aa
         subst this
         simp only [FB,if_neg hup,if_neg (Nat.add_one_ne_zero h),Nat.lt_irrefl,B2,Nat.sub_self,row,hlen,seval]
         intro j hj
         rw [BH,Adt _ _ _ _ Aa]
    ·have hq0:q=0:=by rw [hL] at hq;simpa using hq
     subst hq0
     have dz:decide ((0:Int) < 0)=false:=rfl
     have w3:IntKind.i64.wrap ((h:Int) + 1)=((h + 1:Nat):Int):=Bw
     simp only [hv,if_true]
     (refine es 40 ?_;simp (maxSteps:=2000000) only [dz,El,↓Ad,ex,Ro,Bi,Bt,Ae,seval])
     repeat refine sd ?_
     refine ⟨h + 1,by omega,by omega,?_⟩
     refine Ak.fr [0,1,116] [] hx AQ Aj ?_ ?_
     ·simp only [B2,seval,w3]
     ·simp only [B2,seval]
      have hup:BH l (h + 1)=[]:=List.length_eq_zero_iff.mp (by rw [BH,Io,hL];rfl)
      intro i hi
      by_cases h2:i < h + 1
      ·rw [if_pos h2];exact Bo _ _ _ _ _
      ·have:i=h + 1:=Aa
       subst this
       simp only [FB,hup,if_neg (Nat.add_one_ne_zero h),C2,Nat.lt_irrefl,Ar,ite_self]
  ·have hge:¬ (h:Int) < d:=T6
   have hhd:h=d:=Aa
   subst hhd
   refine Ap.mk hx [2] [] (CI (.sl 0 [] 0 (h + 1) 1) (.ar 32 17 (fun j=>dg (At j))) .nili) [(0,.ar 1 (h + 1) (FB l))] 1 Aj ?_ ?_ ?_ ⟨rfl,rfl,rfl⟩
   ·simp only [SB,HE,F1,↓Ad,ex,Ro,Bi,Bt,Ae,seval]
   ·simp only [La6,GK,CI,LR,↓Ad,ex,Ro,Bi,Bt,Ae,seval]
   ·simp only [B2,seval]
    exact fun _ _=>Bo _ _ _ _ _
end Mv
