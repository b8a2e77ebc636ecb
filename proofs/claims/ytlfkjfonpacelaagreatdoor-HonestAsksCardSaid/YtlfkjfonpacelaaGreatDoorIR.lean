/- A part. -/
import Derived.Test.YtlfkjfonpacelaaGreatDoorIQ
set_option linter.all false
set_option maxRecDepth 20000
set_option maxHeartbeats 4000000
namespace Mv
open Go
variable {M:Seat}
def MU (z:Dg) (l:List Dg) (q:Nat):Dg:=BP (l.getD (2 * q) z) (l.getD (2 * q + 1) z)
def up (z:Dg) (l:List Dg):List Dg:=(List.range ((l.length + 1) / 2)).map (MU z l)
theorem J2 (z:Dg) (l:List Dg):(up z l).length=(l.length + 1) / 2:=by simp [up]
theorem Aih (z:Dg) (l:List Dg) (q:Nat) (d:Dg) (h:q < (l.length + 1) / 2):(up z l).getD q d=MU z l q:=by
 simp [up,List.getD,List.getElem?_map,List.getElem?_range h]
def BX (l:List Dg):Nat→List Dg
 | 0=>l
 | h + 1=>up (A4 h) (BX l h)
def row (l:List Dg):V:=.lst 32 l.length (Fw l)
def Gp (l:List Dg) (h:Nat):V:=if h=0 then row l else if BX l h=[] then .nils else row (BX l h)
theorem D6 (l:List Dg) (h:Nat):Gp l h = .lst 32 (BX l h).length (Fw (BX l h)) ∨ (Gp l h = .nils∧BX l h=[]):=by
 unfold Gp;by_cases h0:h=0
 ·subst h0;exact .inl rfl
 ·rw [if_neg h0];by_cases h1:BX l h=[]
  ·exact .inr ⟨if_pos h1,h1⟩
  ·rw [if_neg h1];exact .inl rfl
theorem Fk (l:List Dg) (h:Nat):(Gp l h).solid=true:=by
 rcases D6 l h with e | ⟨e,_⟩ <;> rw [e] <;> rfl
theorem G2 (l:List Dg) (h:Nat):(Gp l h).size=1:=by
 rcases D6 l h with e | ⟨e,_⟩ <;> rw [e] <;> rfl
theorem IC (l:List Dg) (h:Nat):(Gp l h).isAgg=false:=by
 rcases D6 l h with e | ⟨e,_⟩ <;> rw [e] <;> rfl
theorem B6 (H:Hp) (m z:List Nat) (l:List Dg) (h:Nat):Ay H m z (Gp l h) (Gp l h):=by
 rcases D6 l h with e | ⟨e,_⟩ <;> rw [e]
 ·simp only [Ay,true_and];exact fun j _=>(AJ _ _ _ _ _).mpr rfl
 ·simp only [Ay]
theorem Hk (H:Hp) (m z:List Nat) (l:List Dg) (h:Nat):Bz H m z (Gp l h) (Gp l h):=by
 have h1:=B6 H m z l h;rcases D6 l h with e | ⟨e,_⟩ <;> rw [e] at h1 ⊢ <;> exact h1
theorem U9 {x:Ctx} {Q:List V→Hp→Nat→Prop} {k:List It} {P:Prop} (A':List V) (H':Hp) (N:Nat) (h:AV M x Q k N A' H') (f:AV M x Q k N A' H'→P):P:=f h
theorem Oj (l:List Dg):∀ h,(BX l h).length≤l.length
 | 0=>Nat.le_refl _
 | h + 1 => by
   have:=Oj l h;simp only [BX,J2];omega
theorem F2 {l:List Dg} {i:Nat} (h:i < l.length) (a b:Dg):l.getD i a=l.getD i b:=by simp [List.getD,h]
theorem ED {l:List Dg} {i:Nat} (h:l.length≤i) (a:Dg):l.getD i a=a:=by simp [List.getD,h]
theorem Py {z:Dg} {L:List Dg} {q:Nat} {v:Dg} (hu:MU z L q=v) (i:Nat) (hi:i < q + 1):(if i < q then dg (MU z L i) else if i - q=0 then dg v else V.ar 1 32 (fun _=>V.int .u8 0))=dg (MU z L i):=by
 by_cases h:i < q
 ·rw [if_pos h]
 ·have:i=q:=Aa;subst this;rw [if_neg h,if_pos Aa,hu]
theorem KT {z:Dg} {L:List Dg} {v:Dg} (hu:MU z L 0=v) (i:Nat) (hi:i < 1):(if i=0 then dg v else V.ar 1 32 (fun _=>V.int .u8 0))=dg (MU z L i):=by
 have:i=0:=Aa;subst this;rw [if_pos rfl,hu]
theorem Aa0 {d:Nat} (hd:d≤16):IntKind.i64.wrap (1 * 2 ^ min d IntKind.i64.bits)=((2 ^ d:Nat):Int):=by
 have e1:min d IntKind.i64.bits=d:=by simp only [IntKind.bits];omega
 have h2:2 ^ d≤2 ^ 16:=Nat.pow_le_pow_right Aa hd;rw [e1,Int.one_mul];have e2:(2:Int) ^ d=((2 ^ d:Nat):Int):=by rw [Int.natCast_pow];rfl
 rw [e2];generalize 2 ^ d=P at h2 ⊢;rw [Bu Aa]
def OT:LC:=(.seq (.regd [⟨0,0,⟨(some 61),.lo (.mv (.t 11)),none⟩⟩,
 ⟨1,0,⟨(some 62),.lo (.mv (.t 12)),none⟩⟩,
 ⟨2,3,⟨(some 63),.lo (.isl 32 (.t 61) (.t 62)),none⟩⟩,
 ⟨3,7,⟨(some 64),.lo (.load true 32 (.t 63)),none⟩⟩,
 ⟨4,0,⟨(some 65),.lo (.mv (.t 9)),none⟩⟩,
 ⟨5,16,⟨(some 66),.lo (.iarr 17 32 (.t 7) (.t 65)),none⟩⟩,
 ⟨6,48,⟨(some 67),.lo (.load true 32 (.t 66)),none⟩⟩,
 ⟨7,127,⟨(some 68),.lo (.eq false false (.ar 32 1 false .int) (.t 64) (.t 67)),none⟩⟩,
 ⟨8,255,⟨(some 69),.lo (.mv (.t 68)),none⟩⟩,
 ⟨9,511,⟨(some 70),.lo (.load true 32 (.t 13)),(some (69,true))⟩⟩,
 ⟨10,511,⟨(some 71),.lo (.mv (.t 9)),(some (69,true))⟩⟩,
 ⟨11,1535,⟨(some 72),.lo (.iarr 17 32 (.t 7) (.t 71)),(some (69,true))⟩⟩,
 ⟨12,3583,⟨(some 73),.lo (.load true 32 (.t 72)),(some (69,true))⟩⟩,
 ⟨13,8191,⟨(some 74),.lo (.eq false false (.ar 32 1 false .int) (.t 70) (.t 73)),(some (69,true))⟩⟩,
 ⟨14,16383,⟨(some 75),.lo (.pick (.t 69) (.t 74) (.c (.bool false))),none⟩⟩])
 (.cond (.t 75) (.reg [⟨(some 76),.lo (.mv (.t 10)),none⟩,
  ⟨(some 77),.lo (.mv (.t 9)),none⟩,
  ⟨(some 78),.lo (.ari .add (.t 77) (.c (.int .i64 1))),none⟩,
  ⟨(some 79),.lo (.iarr 17 32 (.t 7) (.t 78)),none⟩,
  ⟨(some 80),.lo (.load true 32 (.t 79)),none⟩,
  ⟨(some 81),.lo (.bsl 32 1 (.ar 32 (.int .u8)) [(.i 32 0,32,(.t 80))]),none⟩,
  ⟨(some 82),.lo (.app 32 32 (.t 76) (.t 81)),none⟩,
  ⟨(some 10),.lo (.mv (.t 82)),none⟩]) (.regd [⟨1,0,⟨(some 84),.lo (.mv (.t 11)),none⟩⟩,
  ⟨2,0,⟨(some 85),.lo (.mv (.t 12)),none⟩⟩,
  ⟨3,3,⟨(some 86),.lo (.isl 32 (.t 84) (.t 85)),none⟩⟩,
  ⟨4,7,⟨(some 87),.lo (.load true 32 (.t 86)),none⟩⟩,
  ⟨5,0,⟨(some 88),.lo (.load true 32 (.t 13)),none⟩⟩,
  ⟨6,31,⟨(some 89),.call 207 [(.t 87),(.t 88)],none⟩⟩,
  ⟨0,0,⟨(some 83),.lo (.mv (.t 10)),none⟩⟩,
  ⟨7,63,⟨(some 90),.lo (.bsl 32 1 (.ar 32 (.int .u8)) [(.i 32 0,32,(.t 89))]),none⟩⟩,
  ⟨8,255,⟨(some 91),.lo (.app 32 32 (.t 83) (.t 90)),none⟩⟩,
  ⟨9,511,⟨(some 10),.lo (.mv (.t 91)),none⟩⟩])))
def Pd:LC:=(.reg [⟨(some 46),.lo (.mv (.t 12)),none⟩,
 ⟨(some 47),.lo (.ari .add (.t 46) (.c (.int .i64 2))),none⟩,
 ⟨(some 12),.lo (.mv (.t 47)),none⟩])
theorem Alf {x:Ctx} {Q:List V→Hp→Nat→Prop} (ok:OkM M) (hx:x.k=0) {d h:Nat} {l:List Dg} (hd:d≤16) (hlt:(h:Int) < d) (hn:(BX l h).length≤65536) (hlt2:(0:Int) < (BX l h).length)
 (e1:(BX l h).getD 0 Dg.zero=A4 h) {rest:List It} {J:List V→Hp→Nat→Prop}
 (hJ:∀ A H N,Ak M x A H N (fr 99 [(5,.ptr 0 []),(6,.nili),(7,.ptr 1 []),(8,.sl 2 [] 0 (h + 1) 1),(9,.int .i64 h),(10,.sl 3 [] 0 1 32),(11,.lst 32 (BX l h).length (Fw (BX l h))),(12,.int .i64 2),(34,.int .i64 d),(35,.int .i64 h)])
  [(0,.ar 32 17 (fun _=>dg Dg.zero)),(1,.ar 32 17 (fun j=>dg (A4 j))),(2,.ar 1 (h + 1) (Gp l)),(3,.ar 32 1 (fun j=>dg (MU (A4 h) (BX l h) j)))] 4→J A H N) :
 AV M x Q (.code OT :: .blk 4 :: .code Pd :: .inv J :: rest) 5 (fr 99 [(5,.ptr 0 []),(6,.nili),(7,.ptr 1 []),(8,.sl 2 [] 0 (h + 1) 1),(9,.int .i64 h),(10,.nils),(11,.lst 32 (BX l h).length (Fw (BX l h))),(12,.int .i64 0),(13,.ptr 4 []),(34,.int .i64 d),(35,.int .i64 h)])
  ((4,dg ((BX l h).getD 1 (A4 h))) :: (0,.ar 32 17 (fun _=>dg Dg.zero)) :: (1,.ar 32 17 (fun j=>dg (A4 j))) :: (2,.ar 1 (h + 1) (Gp l)) :: []):=by
 have w1:IntKind.i64.wrap ((0:Int) + 1)=1:=rfl;have w2:IntKind.i64.wrap ((0:Int) + 2)=2:=rfl;have w3:IntKind.i64.wrap ((h:Int) + 1)=((h + 1:Nat):Int):=AW;have hu:MU (A4 h) (BX l h) 0=BP ((BX l h).getD 0 Dg.zero) ((BX l h).getD 1 (A4 h)):=by
  rw [F2 (i:=0) Aa Dg.zero (A4 h)];rfl
 have d1:=decide_eq_true e1;(refine es 14 ?_;simp (maxSteps:=2000000) only [OT,Pd,d1,w1,w2,w3,D3,↓Ac,ex,Ro,Bd,Br,Af,Nat.reduceLT,Int.reduceLE,Int.reduceLT,Nat.reducePow,Nat.reduceAnd,Nat.reduceOr,Nat.reduceShiftRight,Int.reduceToNat,reduceCtorEq,Nat.reduceAdd,Nat.reduceMul,Nat.reduceSub,Nat.reduceBEq,Nat.reduceEqDiff]);refine ⟨by omega,by omega,by omega,by omega,by omega,by omega,by omega,fun e2=>?_,fun e2=>?_⟩
 ·have e2:=of_decide_eq_true e2;refine ⟨⟨by omega,by omega⟩,by omega,by omega,hJ _ _ _ ?_⟩;refine Ak.fr [0,1,2,581] [] hx AG Al ?_ ?_
  ·simp only [BE,Nat.reduceLT,reduceCtorEq,Nat.reduceEqDiff,Nat.reduceLeDiff,Nat.reduceBEq]
  ·simp only [BE,Nat.reduceLT,reduceCtorEq,Nat.reduceEqDiff,Nat.reduceLeDiff,Nat.reduceBEq];exact ⟨fun _ _=>B6 _ _ _ _ _,fun i hi=>by rw [KT (by rw [hu,e1,e2];rfl) i hi];exact (AJ _ _ _ _ _).mpr rfl⟩
 ·refine ⟨by omega,_,_,AZ (BB ok _ _) ⟨(AJ _ _ _ _ _).mpr rfl,(AJ _ _ _ _ _).mpr rfl,trivial⟩ rfl ⟨rfl,rfl⟩,?_⟩;simp only [D3,↓Ac,ex,Ro,Bd,Br,Af,Nat.reduceLT,Int.reduceLE,Int.reduceLT,Nat.reducePow,Nat.reduceAnd,Nat.reduceOr,Nat.reduceShiftRight,Int.reduceToNat,reduceCtorEq,Nat.reduceAdd,Nat.reduceMul,Nat.reduceSub,Nat.reduceBEq,Nat.reduceEqDiff];refine ⟨by omega,.inr Aa,hJ _ _ _ ?_⟩;refine Ak.fr [0,1,2,773] [] hx AG Al ?_ ?_
  ·simp only [BE,Nat.reduceLT,reduceCtorEq,Nat.reduceEqDiff,Nat.reduceLeDiff,Nat.reduceBEq]
  ·simp only [BE,Nat.reduceLT,reduceCtorEq,Nat.reduceEqDiff,Nat.reduceLeDiff,Nat.reduceBEq];exact ⟨fun _ _=>B6 _ _ _ _ _,fun i hi=>by rw [KT hu i hi];exact (AJ _ _ _ _ _).mpr rfl⟩
theorem Ana {x:Ctx} {Q:List V→Hp→Nat→Prop} (ok:OkM M) (hx:x.k=0) {d h:Nat} {l:List Dg} (hd:d≤16) (hlt:(h:Int) < d) (hn:(BX l h).length≤65536) (hlt2:(0:Int) < (BX l h).length)
 (e1:¬ (BX l h).getD 0 Dg.zero=A4 h) {rest:List It} {J:List V→Hp→Nat→Prop}
 (hJ:∀ A H N,Ak M x A H N (fr 99 [(5,.ptr 0 []),(6,.nili),(7,.ptr 1 []),(8,.sl 2 [] 0 (h + 1) 1),(9,.int .i64 h),(10,.sl 3 [] 0 1 32),(11,.lst 32 (BX l h).length (Fw (BX l h))),(12,.int .i64 2),(34,.int .i64 d),(35,.int .i64 h)])
  [(0,.ar 32 17 (fun _=>dg Dg.zero)),(1,.ar 32 17 (fun j=>dg (A4 j))),(2,.ar 1 (h + 1) (Gp l)),(3,.ar 32 1 (fun j=>dg (MU (A4 h) (BX l h) j)))] 4→J A H N) :
 AV M x Q (.code OT :: .blk 4 :: .code Pd :: .inv J :: rest) 5 (fr 99 [(5,.ptr 0 []),(6,.nili),(7,.ptr 1 []),(8,.sl 2 [] 0 (h + 1) 1),(9,.int .i64 h),(10,.nils),(11,.lst 32 (BX l h).length (Fw (BX l h))),(12,.int .i64 0),(13,.ptr 4 []),(34,.int .i64 d),(35,.int .i64 h)])
  ((4,dg ((BX l h).getD 1 (A4 h))) :: (0,.ar 32 17 (fun _=>dg Dg.zero)) :: (1,.ar 32 17 (fun j=>dg (A4 j))) :: (2,.ar 1 (h + 1) (Gp l)) :: []):=by
 have w1:IntKind.i64.wrap ((0:Int) + 1)=1:=rfl;have w2:IntKind.i64.wrap ((0:Int) + 2)=2:=rfl;have w3:IntKind.i64.wrap ((h:Int) + 1)=((h + 1:Nat):Int):=AW;have hu:MU (A4 h) (BX l h) 0=BP ((BX l h).getD 0 Dg.zero) ((BX l h).getD 1 (A4 h)):=by
  rw [F2 (i:=0) Aa Dg.zero (A4 h)];rfl
 have d1:=decide_eq_false e1;(refine es 14 ?_;simp (maxSteps:=2000000) only [OT,Pd,d1,w1,w2,w3,D3,↓Ac,ex,Ro,Bd,Br,Af,Nat.reduceLT,Int.reduceLE,Int.reduceLT,Nat.reducePow,Nat.reduceAnd,Nat.reduceOr,Nat.reduceShiftRight,Int.reduceToNat,reduceCtorEq,Nat.reduceAdd,Nat.reduceMul,Nat.reduceSub,Nat.reduceBEq,Nat.reduceEqDiff]);refine ⟨by omega,by omega,by omega,by omega,?_⟩
 ·refine ⟨by omega,_,_,AZ (BB ok _ _) ⟨(AJ _ _ _ _ _).mpr rfl,(AJ _ _ _ _ _).mpr rfl,trivial⟩ rfl ⟨rfl,rfl⟩,?_⟩;simp only [D3,↓Ac,ex,Ro,Bd,Br,Af,Nat.reduceLT,Int.reduceLE,Int.reduceLT,Nat.reducePow,Nat.reduceAnd,Nat.reduceOr,Nat.reduceShiftRight,Int.reduceToNat,reduceCtorEq,Nat.reduceAdd,Nat.reduceMul,Nat.reduceSub,Nat.reduceBEq,Nat.reduceEqDiff];refine ⟨by omega,.inr Aa,hJ _ _ _ ?_⟩;refine Ak.fr [0,1,2,773] [] hx AG Al ?_ ?_
  ·simp only [BE,Nat.reduceLT,reduceCtorEq,Nat.reduceEqDiff,Nat.reduceLeDiff,Nat.reduceBEq]
  ·simp only [BE,Nat.reduceLT,reduceCtorEq,Nat.reduceEqDiff,Nat.reduceLeDiff,Nat.reduceBEq];exact ⟨fun _ _=>B6 _ _ _ _ _,fun i hi=>by rw [KT hu i hi];exact (AJ _ _ _ _ _).mpr rfl⟩
theorem Aou {x:Ctx} {Q:List V→Hp→Nat→Prop} (ok:OkM M) (hx:x.k=0) {d h:Nat} {q:Nat} {l:List Dg} (hd:d≤16) (hlt:(h:Int) < d) (hn:(BX l h).length≤65536) (hlt2:((2 * q:Nat):Int) < (BX l h).length)
 (e1:(BX l h).getD (2 * q) Dg.zero=A4 h) {rest:List It} {J:List V→Hp→Nat→Prop}
 (hJ:∀ A H N,Ak M x A H N (fr 99 [(5,.ptr 0 []),(6,.nili),(7,.ptr 1 []),(8,.sl 2 [] 0 (h + 1) 1),(9,.int .i64 h),(10,.sl 3 [] 0 (q + 1) 32),(11,.lst 32 (BX l h).length (Fw (BX l h))),(12,.int .i64 (2 * (q + 1):Nat)),(34,.int .i64 d),(35,.int .i64 h)])
  [(0,.ar 32 17 (fun _=>dg Dg.zero)),(1,.ar 32 17 (fun j=>dg (A4 j))),(2,.ar 1 (h + 1) (Gp l)),(3,.ar 32 (q + 1) (fun j=>dg (MU (A4 h) (BX l h) j)))] 4→J A H N) :
 AV M x Q (.code OT :: .blk 4 :: .code Pd :: .inv J :: rest) 5 (fr 99 [(5,.ptr 0 []),(6,.nili),(7,.ptr 1 []),(8,.sl 2 [] 0 (h + 1) 1),(9,.int .i64 h),(10,.sl 3 [] 0 q 32),(11,.lst 32 (BX l h).length (Fw (BX l h))),(12,.int .i64 (2 * q:Nat)),(13,.ptr 4 []),(34,.int .i64 d),(35,.int .i64 h)])
  ((4,dg ((BX l h).getD (2 * q + 1) (A4 h))) :: (0,.ar 32 17 (fun _=>dg Dg.zero)) :: (1,.ar 32 17 (fun j=>dg (A4 j))) :: (2,.ar 1 (h + 1) (Gp l)) :: [(3,.ar 32 q (fun j=>dg (MU (A4 h) (BX l h) j)))]):=by
 have w1:IntKind.i64.wrap (((2 * q:Nat):Int) + 1)=((2 * q + 1:Nat):Int):=AW;have w2:IntKind.i64.wrap (((2 * q:Nat):Int) + 2)=((2 * (q + 1):Nat):Int):=AW;have w3:IntKind.i64.wrap ((h:Int) + 1)=((h + 1:Nat):Int):=AW;have hu:MU (A4 h) (BX l h) q=BP ((BX l h).getD (2 * q) Dg.zero) ((BX l h).getD (2 * q + 1) (A4 h)):=by
  rw [F2 (i:=2 * q) Aa Dg.zero (A4 h)];rfl
 have d1:=decide_eq_true e1;(refine es 14 ?_;simp (maxSteps:=2000000) only [OT,Pd,d1,w1,w2,w3,D3,↓Ac,ex,Ro,Bd,Br,Af,Nat.reduceLT,Int.reduceLE,Int.reduceLT,Nat.reducePow,Nat.reduceAnd,Nat.reduceOr,Nat.reduceShiftRight,Int.reduceToNat,reduceCtorEq,Nat.reduceAdd,Nat.reduceMul,Nat.reduceSub,Nat.reduceBEq,Nat.reduceEqDiff]);refine ⟨by omega,by omega,by omega,by omega,by omega,by omega,by omega,fun e2=>?_,fun e2=>?_⟩
 ·have e2:=of_decide_eq_true e2;refine ⟨⟨by omega,by omega⟩,by omega,by omega,hJ _ _ _ ?_⟩;refine Ak.fr [0,1,2,581] [] hx AG Al ?_ ?_
  ·simp only [BE,Nat.reduceLT,reduceCtorEq,Nat.reduceEqDiff,Nat.reduceLeDiff,Nat.reduceBEq]
  ·simp only [BE,Nat.reduceLT,reduceCtorEq,Nat.reduceEqDiff,Nat.reduceLeDiff,Nat.reduceBEq];exact ⟨fun _ _=>B6 _ _ _ _ _,fun i hi=>by rw [Py (by rw [hu,e1,e2];rfl) i hi];exact (AJ _ _ _ _ _).mpr rfl⟩
 ·refine ⟨by omega,_,_,AZ (BB ok _ _) ⟨(AJ _ _ _ _ _).mpr rfl,(AJ _ _ _ _ _).mpr rfl,trivial⟩ rfl ⟨rfl,rfl⟩,?_⟩;simp only [D3,↓Ac,ex,Ro,Bd,Br,Af,Nat.reduceLT,Int.reduceLE,Int.reduceLT,Nat.reducePow,Nat.reduceAnd,Nat.reduceOr,Nat.reduceShiftRight,Int.reduceToNat,reduceCtorEq,Nat.reduceAdd,Nat.reduceMul,Nat.reduceSub,Nat.reduceBEq,Nat.reduceEqDiff];refine ⟨by omega,.inr Aa,hJ _ _ _ ?_⟩;refine Ak.fr [0,1,2,773] [] hx AG Al ?_ ?_
  ·simp only [BE,Nat.reduceLT,reduceCtorEq,Nat.reduceEqDiff,Nat.reduceLeDiff,Nat.reduceBEq]
  ·simp only [BE,Nat.reduceLT,reduceCtorEq,Nat.reduceEqDiff,Nat.reduceLeDiff,Nat.reduceBEq];exact ⟨fun _ _=>B6 _ _ _ _ _,fun i hi=>by rw [Py hu i hi];exact (AJ _ _ _ _ _).mpr rfl⟩
theorem Ame {x:Ctx} {Q:List V→Hp→Nat→Prop} (ok:OkM M) (hx:x.k=0) {d h:Nat} {q:Nat} {l:List Dg} (hd:d≤16) (hlt:(h:Int) < d) (hn:(BX l h).length≤65536) (hlt2:((2 * q:Nat):Int) < (BX l h).length)
 (e1:¬ (BX l h).getD (2 * q) Dg.zero=A4 h) {rest:List It} {J:List V→Hp→Nat→Prop}
 (hJ:∀ A H N,Ak M x A H N (fr 99 [(5,.ptr 0 []),(6,.nili),(7,.ptr 1 []),(8,.sl 2 [] 0 (h + 1) 1),(9,.int .i64 h),(10,.sl 3 [] 0 (q + 1) 32),(11,.lst 32 (BX l h).length (Fw (BX l h))),(12,.int .i64 (2 * (q + 1):Nat)),(34,.int .i64 d),(35,.int .i64 h)])
  [(0,.ar 32 17 (fun _=>dg Dg.zero)),(1,.ar 32 17 (fun j=>dg (A4 j))),(2,.ar 1 (h + 1) (Gp l)),(3,.ar 32 (q + 1) (fun j=>dg (MU (A4 h) (BX l h) j)))] 4→J A H N) :
 AV M x Q (.code OT :: .blk 4 :: .code Pd :: .inv J :: rest) 5 (fr 99 [(5,.ptr 0 []),(6,.nili),(7,.ptr 1 []),(8,.sl 2 [] 0 (h + 1) 1),(9,.int .i64 h),(10,.sl 3 [] 0 q 32),(11,.lst 32 (BX l h).length (Fw (BX l h))),(12,.int .i64 (2 * q:Nat)),(13,.ptr 4 []),(34,.int .i64 d),(35,.int .i64 h)])
  ((4,dg ((BX l h).getD (2 * q + 1) (A4 h))) :: (0,.ar 32 17 (fun _=>dg Dg.zero)) :: (1,.ar 32 17 (fun j=>dg (A4 j))) :: (2,.ar 1 (h + 1) (Gp l)) :: [(3,.ar 32 q (fun j=>dg (MU (A4 h) (BX l h) j)))]):=by
 have w1:IntKind.i64.wrap (((2 * q:Nat):Int) + 1)=((2 * q + 1:Nat):Int):=AW;have w2:IntKind.i64.wrap (((2 * q:Nat):Int) + 2)=((2 * (q + 1):Nat):Int):=AW;have w3:IntKind.i64.wrap ((h:Int) + 1)=((h + 1:Nat):Int):=AW;have hu:MU (A4 h) (BX l h) q=BP ((BX l h).getD (2 * q) Dg.zero) ((BX l h).getD (2 * q + 1) (A4 h)):=by
  rw [F2 (i:=2 * q) Aa Dg.zero (A4 h)];rfl
 have d1:=decide_eq_false e1;(refine es 14 ?_;simp (maxSteps:=2000000) only [OT,Pd,d1,w1,w2,w3,D3,↓Ac,ex,Ro,Bd,Br,Af,Nat.reduceLT,Int.reduceLE,Int.reduceLT,Nat.reducePow,Nat.reduceAnd,Nat.reduceOr,Nat.reduceShiftRight,Int.reduceToNat,reduceCtorEq,Nat.reduceAdd,Nat.reduceMul,Nat.reduceSub,Nat.reduceBEq,Nat.reduceEqDiff]);refine ⟨by omega,by omega,by omega,by omega,?_⟩
 ·refine ⟨by omega,_,_,AZ (BB ok _ _) ⟨(AJ _ _ _ _ _).mpr rfl,(AJ _ _ _ _ _).mpr rfl,trivial⟩ rfl ⟨rfl,rfl⟩,?_⟩;simp only [D3,↓Ac,ex,Ro,Bd,Br,Af,Nat.reduceLT,Int.reduceLE,Int.reduceLT,Nat.reducePow,Nat.reduceAnd,Nat.reduceOr,Nat.reduceShiftRight,Int.reduceToNat,reduceCtorEq,Nat.reduceAdd,Nat.reduceMul,Nat.reduceSub,Nat.reduceBEq,Nat.reduceEqDiff];refine ⟨by omega,.inr Aa,hJ _ _ _ ?_⟩;refine Ak.fr [0,1,2,773] [] hx AG Al ?_ ?_
  ·simp only [BE,Nat.reduceLT,reduceCtorEq,Nat.reduceEqDiff,Nat.reduceLeDiff,Nat.reduceBEq]
  ·simp only [BE,Nat.reduceLT,reduceCtorEq,Nat.reduceEqDiff,Nat.reduceLeDiff,Nat.reduceBEq];exact ⟨fun _ _=>B6 _ _ _ _ _,fun i hi=>by rw [Py hu i hi];exact (AJ _ _ _ _ _).mpr rfl⟩
theorem Au5 {x:Ctx} {Q:List V→Hp→Nat→Prop} (ok:OkM M) (hx:x.k=0) {d h q:Nat} {l:List Dg} (hd:d≤16) (hlt:(h:Int) < d) (hn:(BX l h).length≤65536) (hlt2:((2 * q:Nat):Int) < (BX l h).length)
 {rest:List It} {J:List V→Hp→Nat→Prop}
 (hJ:∀ A H N,Ak M x A H N (fr 99 [(5,.ptr 0 []),(6,.nili),(7,.ptr 1 []),(8,.sl 2 [] 0 (h + 1) 1),(9,.int .i64 h),(10,if q + 1=0 then .nils else .sl 3 [] 0 (q + 1) 32),(11,.lst 32 (BX l h).length (Fw (BX l h))),(12,.int .i64 (2 * (q + 1):Nat)),(34,.int .i64 d),(35,.int .i64 h)])
  ((0,.ar 32 17 (fun _=>dg Dg.zero)) :: (1,.ar 32 17 (fun j=>dg (A4 j))) :: (2,.ar 1 (h + 1) (Gp l)) :: (if q + 1=0 then [] else [(3,.ar 32 (q + 1) (fun j=>dg (MU (A4 h) (BX l h) j)))])) 4→J A H N) :
 AV M x Q (.code OT :: .blk 4 :: .code Pd :: .inv J :: rest) 5 (fr 99 [(5,.ptr 0 []),(6,.nili),(7,.ptr 1 []),(8,.sl 2 [] 0 (h + 1) 1),(9,.int .i64 h),(10,if q=0 then .nils else .sl 3 [] 0 q 32),(11,.lst 32 (BX l h).length (Fw (BX l h))),(12,.int .i64 (2 * q:Nat)),(13,.ptr 4 []),(34,.int .i64 d),(35,.int .i64 h)])
  ((4,dg ((BX l h).getD (2 * q + 1) (A4 h))) :: (0,.ar 32 17 (fun _=>dg Dg.zero)) :: (1,.ar 32 17 (fun j=>dg (A4 j))) :: (2,.ar 1 (h + 1) (Gp l)) :: (if q=0 then [] else [(3,.ar 32 q (fun j=>dg (MU (A4 h) (BX l h) j)))])):=by
 by_cases hq0:q=0
 ·subst hq0;by_cases e1:(BX l h).getD 0 Dg.zero=A4 h
  ·exact Alf ok hx hd hlt hn hlt2 e1 hJ
  ·exact Ana ok hx hd hlt hn hlt2 e1 hJ
 ·simp only [if_neg hq0];by_cases e1:(BX l h).getD (2 * q) Dg.zero=A4 h
  ·exact Aou ok hx hd hlt hn hlt2 e1 hJ
  ·exact Ame ok hx hd hlt hn hlt2 e1 hJ
theorem JQ {M:Seat} (ok:OkM M) (d:Nat) (hd:d≤16) (l:List Dg) (hl:l.length≤2 ^ d) :
 Ae M 316 [.int .i64 d,row l] [] 0 (Q3 (B0 (.sl 0 [] 0 (d + 1) 1) (.ar 32 17 (fun j=>dg (A4 j))) .nili) [(0,.ar 1 (d + 1) (Gp l))] 1):=by
 refine Ab ok.k316 rfl fun x hx=>?_;refine es 30 ?_;simp only [Aql,Aub,row,FU,↓Ac,ex,Ro,Bd,Br,Af,seval];refine AZ (Ir ok) trivial rfl ?_;simp only [FU,↓Ac,ex,Ro,Bd,Br,Af,seval];have h1:decide ((d:Int) < 0)=false:=B9;have h2:decide ((16:Int) < d)=false:=FY;simp only [h1,h2,FU,↓Ac,ex,Ro,Bd,Br,Af,seval];refine ⟨by omega,fun hgt=>?_,fun _=>?_⟩
 ·exfalso;have hgt:IntKind.i64.wrap (1 * 2 ^ min d IntKind.i64.bits) < l.length:=by simpa using hgt
  rw [Aa0 hd] at hgt;omega
 refine Am (σ:=Nat) (fun h=>h≤d) (fun h=>fr 99 [(5,.ptr 0 []),(6,.nili),(7,.ptr 1 []),(8,.sl 2 [] 0 (h + 1) 1),(34,.int .i64 d),(35,.int .i64 h)])
  (fun h=>[(0,.ar 32 17 (fun _=>dg Dg.zero)),(1,.ar 32 17 (fun j=>dg (A4 j))),(2,.ar 1 (h + 1) (Gp l))]) (fun _=>3) (fun h=>d - h) 0 Aa ?_ ?_
 ·refine Ak.fr [16,64,320] [] hx AG Al ?_ ?_
  ·simp only [BE,seval]
  ·simp only [BE,seval,dg0];intro j hj;have:j=0:=Aa;subst this;simp only [Gp,row,BE,seval]
 ·intro h hh;(refine es 40 ?_;simp (maxSteps:=2000000) only [D3,↓Ac,ex,Ro,Bd,Br,Af,seval]);refine ⟨fun hlt=>?_,fun hge=>?_⟩
  ·have hlt:(h:Int) < d:=VM;simp only [Fk,G2,IC,FU,↓Ac,ex,Ro,Bd,Br,Af,seval];repeat refine sd ?_
   refine Am (σ:=Nat) (fun q=>q≤((BX l h).length + 1) / 2) (fun q=>fr 99 [(5,.ptr 0 []),(6,.nili),(7,.ptr 1 []),(8,.sl 2 [] 0 (h + 1) 1),(9,.int .i64 h),(10,if q=0 then .nils else .sl 3 [] 0 q 32),(11,Gp l h),(12,.int .i64 (2 * q:Nat)),(34,.int .i64 d),(35,.int .i64 h)])
    (fun q=>(0,.ar 32 17 (fun _=>dg Dg.zero)) :: (1,.ar 32 17 (fun j=>dg (A4 j))) :: (2,.ar 1 (h + 1) (Gp l)) :: (if q=0 then [] else [(3,.ar 32 q (fun j=>dg (MU (A4 h) (BX l h) j)))])) (fun _=>4) (fun q=>(BX l h).length + 1 - q) 0 Aa ?_ ?_
   ·refine Ak.fr [0,1,2] [] hx AG Al ?_ ?_
    ·simp only [BE,seval];first | exact ⟨Hk _ _ _ _ _,rfl⟩ | exact Hk _ _ _ _ _
    ·simp only [BE,seval];exact fun _ _=>B6 _ _ _ _ _
   ·intro q hq;rcases D6 l h with hv | ⟨hv,hL⟩
    ·simp only [hv];(refine es 14 ?_;simp (maxSteps:=2000000) only [D3,↓Ac,ex,Ro,Bd,Br,Af,seval]);have hn:(BX l h).length≤65536:=Nat.le_trans (Oj l h) (Nat.le_trans hl (Nat.pow_le_pow_right (n:=2) Aa hd));refine ⟨fun hlt2=>?_,fun hge2=>?_⟩
     ·have hlt2:((2 * q:Nat):Int) < (BX l h).length:=of_decide_eq_true hlt2;have w1:IntKind.i64.wrap (((2 * q:Nat):Int) + 1)=((2 * q + 1:Nat):Int):=AW;have w2:IntKind.i64.wrap (((2 * q:Nat):Int) + 2)=((2 * (q + 1):Nat):Int):=AW;have w3:IntKind.i64.wrap ((h:Int) + 1)=((h + 1:Nat):Int):=AW;simp only [w1,Int.toNat_natCast];refine U9 (fr 99 [(5,.ptr 0 []),(6,.nili),(7,.ptr 1 []),(8,.sl 2 [] 0 (h + 1) 1),(9,.int .i64 h),(10,if q=0 then .nils else .sl 3 [] 0 q 32),(11,.lst 32 (BX l h).length (Fw (BX l h))),(12,.int .i64 (2 * q:Nat)),(13,.ptr 4 []),(34,.int .i64 d),(35,.int .i64 h)])
       ((4,dg ((BX l h).getD (2 * q + 1) (A4 h))) :: (0,.ar 32 17 (fun _=>dg Dg.zero)) :: (1,.ar 32 17 (fun j=>dg (A4 j))) :: (2,.ar 1 (h + 1) (Gp l)) :: (if q=0 then [] else [(3,.ar 32 q (fun j=>dg (MU (A4 h) (BX l h) j)))])) 5 ?_
       (fun key=>⟨⟨by omega,by omega⟩,by omega,fun ho=>⟨⟨by omega,of_decide_eq_true ho⟩,AV.weak _ _ _ ?_ key⟩,fun ho=>AV.weak _ _ _ ?_ key⟩)
      ·exact Au5 ok hx hd hlt hn hlt2 (fun A H N hw=>⟨q + 1,by omega,by omega,hw⟩)
      ·have ho:=of_decide_eq_true ho;refine Ak.fr [0,1,2,3,116] [] hx AG Al ?_ ?_
       ·simp only [BE,seval];by_cases hq0:q=0
        ·simp only [if_pos hq0,BE,seval]
        ·simp only [if_neg hq0,BE,seval]
       ·simp only [BE,seval];refine ⟨F2 Aa _ _,fun _ _=>B6 _ _ _ _ _,?_⟩;by_cases hq0:q=0
        ·simp only [if_pos hq0,BE,seval]
        ·simp only [if_neg hq0,BE,seval]
      ·have ho:=of_decide_eq_false ho;refine Ak.fr [0,1,2,3,116] [] hx AG Al ?_ ?_
       ·simp only [BE,seval];by_cases hq0:q=0
        ·simp only [if_pos hq0,BE,seval]
        ·simp only [if_neg hq0,BE,seval]
       ·simp only [BE,seval];refine ⟨(ED Aa _).symm,fun _ _=>B6 _ _ _ _ _,?_⟩;by_cases hq0:q=0
        ·simp only [if_pos hq0,BE,seval]
        ·simp only [if_neg hq0,BE,seval]
     ·have hge2:¬ ((2 * q:Nat):Int) < (BX l h).length:=of_decide_eq_false hge2;have hqe:q=((BX l h).length + 1) / 2:=Aa;have w3:IntKind.i64.wrap ((h:Int) + 1)=((h + 1:Nat):Int):=AW;by_cases hq0:q=0
      ·simp only [if_pos hq0,D3,↓Ac,ex,Ro,Bd,Br,Af,seval];repeat refine sd ?_
       refine ⟨h + 1,by omega,by omega,?_⟩;refine Ak.fr [0,1,116] [] hx AG Al ?_ ?_
       ·simp only [BE,seval,w3]
       ·simp only [BE,seval];have hup:BX l (h + 1)=[]:=List.length_eq_zero_iff.mp (by rw [BX,J2];omega);intro i hi;by_cases h2:i < h + 1
        ·rw [if_pos h2];exact B6 _ _ _ _ _
        ·have:i=h + 1:=Aa;subst this;simp only [Gp,hup,if_neg (Nat.add_one_ne_zero h),B4,Nat.lt_irrefl,Ay,ite_self]
      ·simp only [if_neg hq0,D3,↓Ac,ex,Ro,Bd,Br,Af,seval];repeat refine sd ?_
       refine ⟨h + 1,by omega,by omega,?_⟩;refine Ak.fr [0,1,116] [3] hx AG Al ?_ ?_
       ·simp only [BE,seval,w3]
       ·simp only [BE,seval];have hlen:(BX l (h + 1)).length=q:=by rw [BX,J2];omega
        have hup:BX l (h + 1) ≠ []:=fun h=>by rw [h] at hlen;exact hq0 hlen.symm
        intro i hi;by_cases h2:i < h + 1
        ·rw [if_pos h2];exact B6 _ _ _ _ _
        ·have:i=h + 1:=Aa;subst this;simp only [Gp,if_neg hup,if_neg (Nat.add_one_ne_zero h),Nat.lt_irrefl,BE,Nat.sub_self,row,hlen,seval];intro j hj;rw [BX,Aih _ _ _ _ Aa]
    ·have hq0:q=0:=by rw [hL] at hq;simpa using hq
     subst hq0;have dz:decide ((0:Int) < 0)=false:=rfl;have w3:IntKind.i64.wrap ((h:Int) + 1)=((h + 1:Nat):Int):=AW;simp only [hv,if_true];(refine es 40 ?_;simp (maxSteps:=2000000) only [dz,D3,↓Ac,ex,Ro,Bd,Br,Af,seval]);repeat refine sd ?_
     refine ⟨h + 1,by omega,by omega,?_⟩;refine Ak.fr [0,1,116] [] hx AG Al ?_ ?_
     ·simp only [BE,seval,w3]
     ·simp only [BE,seval];have hup:BX l (h + 1)=[]:=List.length_eq_zero_iff.mp (by rw [BX,J2,hL];rfl);intro i hi;by_cases h2:i < h + 1
      ·rw [if_pos h2];exact B6 _ _ _ _ _
      ·have:i=h + 1:=Aa;subst this;simp only [Gp,hup,if_neg (Nat.add_one_ne_zero h),B4,Nat.lt_irrefl,Ay,ite_self]
  ·have hge:¬ (h:Int) < d:=W0;have hhd:h=d:=Aa;subst hhd;refine Ap.mk hx [2] [] (B0 (.sl 0 [] 0 (h + 1) 1) (.ar 32 17 (fun j=>dg (A4 j))) .nili) [(0,.ar 1 (h + 1) (Gp l))] 1 Al ?_ ?_ ?_ ⟨rfl,rfl,rfl⟩
   ·simp only [Vk,IL,FU,↓Ac,ex,Ro,Bd,Br,Af,seval]
   ·simp only [La6,H3,B0,LR,↓Ac,ex,Ro,Bd,Br,Af,seval]
   ·simp only [BE,seval];exact fun _ _=>B6 _ _ _ _ _
end Mv
