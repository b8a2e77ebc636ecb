/- A part. -/
import Derived.Test.YtgeionenpaopaaaGreatDoorAT
set_option linter.all false
set_option maxRecDepth 20000
set_option maxHeartbeats 4000000
namespace Mv
open Go
def Dd:Nat→Dg
 | 0=>Dg.zero
 | h + 1=>Ajh (Dd h) (Dd h)
theorem NB {M:Seat} (ok:OkM M) :
 As M 315 [] [] 0 (Q3 (.ar 32 17 (fun j=>dg (Dd j))) [] 0):=by
 refine Ac ok.k315 rfl fun x hx=>?_;refine es 30 ?_;simp only [Aib,Amj,GR,↓Ax,ex,Ro,Cr,Dy,Ag,seval];refine Au (σ:=Nat) (fun i=>1≤i∧i≤17) (fun i=>fr 19 [(0,.ptr 0 []),(1,.ptr 1 []),(2,.int .i64 i)])
  (fun i=>[(0,.ar 32 17 (fun _=>dg Dg.zero)),(1,.ar 32 17 (fun j=>dg (if j < i then Dd j else Dg.zero)))]) (fun _=>2) (fun i=>17 - i) 1 Aa ?_ ?_
 ·refine Av.fr [0,16] [] hx Bg Ab ?_ ?_
  ·simp only [Me,seval]
  ·simp only [Me,seval,dg0];intro j hj;by_cases h:j < 1
   ·rw [if_pos h];have:j=0:=Aa;subst this;rfl
   ·rw [if_neg h]
 ·intro i ⟨hi1,hi⟩;(refine es 40 ?_;simp (maxSteps:=2000000) only [W0,↓Ax,ex,Ro,Cr,Dy,Ag,seval]);refine ⟨fun hlt=>?_,fun hge=>?_⟩
  ·have hlt:(i:Int)≤16:=by simpa using hlt
   have w1:IntKind.i64.wrap ((i:Int) - 1)=((i - 1:Nat):Int):=B7;have w2:IntKind.i64.wrap ((i:Int) + 1)=((i + 1:Nat):Int):=B7;simp only [w1,Int.toNat_natCast,if_pos (show i - 1 < i by omega)];repeat refine sd ?_
   refine ⟨_,_,BT (Ti ok _ _) ⟨(Kt _ _ _ _ _).mpr rfl,(Kt _ _ _ _ _).mpr rfl,trivial⟩ rfl ⟨rfl,rfl⟩,?_⟩;simp only [GR,↓Ax,ex,Ro,Cr,Dy,Ag,seval];repeat refine sd ?_
   refine ⟨i + 1,⟨by omega,by omega⟩,by omega,?_⟩;refine Av.fr [0,1] [] hx Bg Ab ?_ ?_
   ·simp only [Me,seval,w2]
   ·simp only [Me,seval];intro j hj;by_cases h1:j=i
    ·subst h1;rw [if_pos rfl,if_pos Aa];obtain ⟨p,rfl⟩:∃ p,j=p + 1:=⟨j - 1,by omega⟩
     rfl
    ·rw [if_neg h1];by_cases h2:j < i
     ·rw [if_pos h2,if_pos Aa]
     ·rw [if_neg h2,if_neg Aa]
  ·have hge:¬ (i:Int)≤16:=by simpa using hge
   have hi17:i=17:=Aa;subst hi17;refine Ay.mk hx [] [] (.ar 32 17 (fun j=>dg (Dd j))) [] 0 Ab ?_ ?_ trivial ⟨rfl,rfl,rfl⟩
   ·simp only [EO,H9,GR,↓Ax,ex,Ro,Cr,Dy,Ag,seval]
   ·simp only [La6,LR,↓Ax,ex,Ro,Cr,Dy,Ag,seval];intro j hj;rw [if_pos hj]
def AP (a b:V):V:=.tup (.fcons 0 a (.fcons 1 b .fnil))
def Cz (a b c:V):V:=.tup (.fcons 0 a (.fcons 1 b (.fcons 2 c .fnil)))
def Lam:=(aq7 @LU @La6 @a6 @AP.eq_1 @Cz.eq_1 @KI.eq_1 @KI.eq_2)
def b5:=@AP.eq_1
def k7:=@Cz.eq_1
variable {M:Seat}
def upN (z:Dg) (l:List Dg) (q:Nat):Dg:=Ajh (l.getD (2 * q) z) (l.getD (2 * q + 1) z)
def up (z:Dg) (l:List Dg):List Dg:=(List.range ((l.length + 1) / 2)).map (upN z l)
theorem Aq5 (z:Dg) (l:List Dg):(up z l).length=(l.length + 1) / 2:=by simp [up]
theorem Awc (z:Dg) (l:List Dg) (q:Nat) (d:Dg) (h:q < (l.length + 1) / 2):(up z l).getD q d=upN z l q:=by
 simp [up,List.getD,List.getElem?_map,List.getElem?_range h]
def D2 (l:List Dg):Nat→List Dg
 | 0=>l
 | h + 1=>up (Dd h) (D2 l h)
def row (l:List Dg):V:=.lst 32 l.length (dgs l)
def U3 (l:List Dg) (h:Nat):V:=if h=0 then row l else if D2 l h=[] then .nils else row (D2 l h)
theorem G2 (l:List Dg) (h:Nat):U3 l h = .lst 32 (D2 l h).length (dgs (D2 l h)) ∨ (U3 l h = .nils∧D2 l h=[]):=by
 unfold U3;by_cases h0:h=0
 ·subst h0;exact .inl rfl
 ·rw [if_neg h0];by_cases h1:D2 l h=[]
  ·exact .inr ⟨if_pos h1,h1⟩
  ·rw [if_neg h1];exact .inl rfl
theorem Art (l:List Dg) (h:Nat):(U3 l h).solid=true:=by
 rcases G2 l h with e | ⟨e,_⟩ <;> rw [e] <;> rfl
theorem Asd (l:List Dg) (h:Nat):(U3 l h).size=1:=by
 rcases G2 l h with e | ⟨e,_⟩ <;> rw [e] <;> rfl
theorem Atz (l:List Dg) (h:Nat):(U3 l h).isAgg=false:=by
 rcases G2 l h with e | ⟨e,_⟩ <;> rw [e] <;> rfl
theorem E2 (H:Hp) (m z:List Nat) (l:List Dg) (h:Nat):Aw H m z (U3 l h) (U3 l h):=by
 rcases G2 l h with e | ⟨e,_⟩ <;> rw [e]
 ·simp only [Aw,true_and];exact fun j _=>(Kt _ _ _ _ _).mpr rfl
 ·simp only [Aw]
theorem U1 (H:Hp) (m z:List Nat) (l:List Dg) (h:Nat):B5 H m z (U3 l h) (U3 l h):=by
 have h1:=E2 H m z l h;rcases G2 l h with e | ⟨e,_⟩ <;> rw [e] at h1 ⊢ <;> exact h1
theorem A0m {x:Ctx} {Q:List V→Hp→Nat→Prop} {k:List It} {P:Prop} (A':List V) (H':Hp) (N:Nat) (h:F8 M x Q k N A' H') (f:F8 M x Q k N A' H'→P):P:=f h
theorem Asa (l:List Dg):∀ h,(D2 l h).length≤l.length
 | 0=>Nat.le_refl _
 | h + 1 => by
   have:=Asa l h;simp only [D2,Aq5];omega
theorem T3 {l:List Dg} {i:Nat} (h:i < l.length) (a b:Dg):l.getD i a=l.getD i b:=by simp [List.getD,h]
theorem S0 {l:List Dg} {i:Nat} (h:l.length≤i) (a:Dg):l.getD i a=a:=by simp [List.getD,h]
theorem Ar0 {z:Dg} {L:List Dg} {q:Nat} {v:Dg} (hu:upN z L q=v) (i:Nat) (hi:i < q + 1):(if i < q then dg (upN z L i) else if i - q=0 then dg v else V.ar 1 32 (fun _=>V.int .u8 0))=dg (upN z L i):=by
 by_cases h:i < q
 ·rw [if_pos h]
 ·have:i=q:=Aa;subst this;rw [if_neg h,if_pos Aa,hu]
theorem Are {z:Dg} {L:List Dg} {v:Dg} (hu:upN z L 0=v) (i:Nat) (hi:i < 1):(if i=0 then dg v else V.ar 1 32 (fun _=>V.int .u8 0))=dg (upN z L i):=by
 have:i=0:=Aa;subst this;rw [if_pos rfl,hu]
theorem A0i {d:Nat} (hd:d≤16):IntKind.i64.wrap (1 * 2 ^ min d IntKind.i64.bits)=((2 ^ d:Nat):Int):=by
 have e1:min d IntKind.i64.bits=d:=by simp only [IntKind.bits];omega
 have h2:2 ^ d≤2 ^ 16:=Nat.pow_le_pow_right Aa hd;rw [e1,Int.one_mul];have e2:(2:Int) ^ d=((2 ^ d:Nat):Int):=by rw [Int.natCast_pow];rfl
 rw [e2];generalize 2 ^ d=P at h2 ⊢;rw [AR Aa]
def Ary:LC:=(.seq (.regd [⟨0,0,⟨(some 61),.lo (.mv (.t 11)),none⟩⟩,
 ⟨1,0,⟨(some 62),.lo (.mv (.t 12)),none⟩⟩,
 ⟨2,3,⟨(some 63),.lo (.isl 32 (.t 61) (.t 62)),none⟩⟩,
 ⟨3,7,⟨(some 64),.lo (.load true 32 (.t 63)),none⟩⟩,
 ⟨4,0,⟨(some 65),.lo (.mv (.t 9)),none⟩⟩,
 ⟨5,16,⟨(some 66),.lo (.iarr 17 32 (.t 7) (.t 65)),none⟩⟩,
 ⟨6,48,⟨(some 67),.lo (.load true 32 (.t 66)),none⟩⟩,
 ⟨7,127,⟨(some 68),.lo (.eq false false (.ar 32 1 false .int) (.t 64) (.t 67)),none⟩⟩,
 ⟨8,255,⟨(some 69),.lo (.mv (.t 68)),none⟩⟩,
 ⟨9,511,⟨(some 70),.lo (.load true 32 (.t 13)),(some (69,true))⟩⟩,
 ⟨10,511,⟨(some 71),.lo (.mv (.t 9)),(some (69,true))⟩⟩,
 ⟨11,1535,⟨(some 72),.lo (.iarr 17 32 (.t 7) (.t 71)),(some (69,true))⟩⟩,
 ⟨12,3583,⟨(some 73),.lo (.load true 32 (.t 72)),(some (69,true))⟩⟩,
 ⟨13,8191,⟨(some 74),.lo (.eq false false (.ar 32 1 false .int) (.t 70) (.t 73)),(some (69,true))⟩⟩,
 ⟨14,16383,⟨(some 75),.lo (.pick (.t 69) (.t 74) (.c (.bool false))),none⟩⟩])
 (.cond (.t 75) (.reg [⟨(some 76),.lo (.mv (.t 10)),none⟩,
  ⟨(some 77),.lo (.mv (.t 9)),none⟩,
  ⟨(some 78),.lo (.ari .add (.t 77) (.c (.int .i64 1))),none⟩,
  ⟨(some 79),.lo (.iarr 17 32 (.t 7) (.t 78)),none⟩,
  ⟨(some 80),.lo (.load true 32 (.t 79)),none⟩,
  ⟨(some 81),.lo (.bsl 32 1 (.ar 32 (.int .u8)) [(.i 32 0,32,(.t 80))]),none⟩,
  ⟨(some 82),.lo (.app 32 32 (.t 76) (.t 81)),none⟩,
  ⟨(some 10),.lo (.mv (.t 82)),none⟩]) (.regd [⟨1,0,⟨(some 84),.lo (.mv (.t 11)),none⟩⟩,
  ⟨2,0,⟨(some 85),.lo (.mv (.t 12)),none⟩⟩,
  ⟨3,3,⟨(some 86),.lo (.isl 32 (.t 84) (.t 85)),none⟩⟩,
  ⟨4,7,⟨(some 87),.lo (.load true 32 (.t 86)),none⟩⟩,
  ⟨5,0,⟨(some 88),.lo (.load true 32 (.t 13)),none⟩⟩,
  ⟨6,31,⟨(some 89),.call 207 [(.t 87),(.t 88)],none⟩⟩,
  ⟨0,0,⟨(some 83),.lo (.mv (.t 10)),none⟩⟩,
  ⟨7,63,⟨(some 90),.lo (.bsl 32 1 (.ar 32 (.int .u8)) [(.i 32 0,32,(.t 89))]),none⟩⟩,
  ⟨8,255,⟨(some 91),.lo (.app 32 32 (.t 83) (.t 90)),none⟩⟩,
  ⟨9,511,⟨(some 10),.lo (.mv (.t 91)),none⟩⟩])))
def Ar7:LC:=(.reg [⟨(some 46),.lo (.mv (.t 12)),none⟩,
 ⟨(some 47),.lo (.ari .add (.t 46) (.c (.int .i64 2))),none⟩,
 ⟨(some 12),.lo (.mv (.t 47)),none⟩])
theorem Azm {x:Ctx} {Q:List V→Hp→Nat→Prop} (ok:OkM M) (hx:x.k=0) {d h:Nat} {l:List Dg} (hd:d≤16) (hlt:(h:Int) < d) (hn:(D2 l h).length≤65536) (hlt2:(0:Int) < (D2 l h).length)
 (e1:(D2 l h).getD 0 Dg.zero=Dd h) {rest:List It} {J:List V→Hp→Nat→Prop}
 (hJ:∀ A H N,Av M x A H N (fr 99 [(5,.ptr 0 []),(6,.nili),(7,.ptr 1 []),(8,.sl 2 [] 0 (h + 1) 1),(9,.int .i64 h),(10,.sl 3 [] 0 1 32),(11,.lst 32 (D2 l h).length (dgs (D2 l h))),(12,.int .i64 2),(34,.int .i64 d),(35,.int .i64 h)])
  [(0,.ar 32 17 (fun _=>dg Dg.zero)),(1,.ar 32 17 (fun j=>dg (Dd j))),(2,.ar 1 (h + 1) (U3 l)),(3,.ar 32 1 (fun j=>dg (upN (Dd h) (D2 l h) j)))] 4→J A H N) :
 F8 M x Q (.code Ary :: .blk 4 :: .code Ar7 :: .inv J :: rest) 5 (fr 99 [(5,.ptr 0 []),(6,.nili),(7,.ptr 1 []),(8,.sl 2 [] 0 (h + 1) 1),(9,.int .i64 h),(10,.nils),(11,.lst 32 (D2 l h).length (dgs (D2 l h))),(12,.int .i64 0),(13,.ptr 4 []),(34,.int .i64 d),(35,.int .i64 h)])
  ((4,dg ((D2 l h).getD 1 (Dd h))) :: (0,.ar 32 17 (fun _=>dg Dg.zero)) :: (1,.ar 32 17 (fun j=>dg (Dd j))) :: (2,.ar 1 (h + 1) (U3 l)) :: []):=by
 have w1:IntKind.i64.wrap ((0:Int) + 1)=1:=rfl;have w2:IntKind.i64.wrap ((0:Int) + 2)=2:=rfl;have w3:IntKind.i64.wrap ((h:Int) + 1)=((h + 1:Nat):Int):=B7;have hu:upN (Dd h) (D2 l h) 0=Ajh ((D2 l h).getD 0 Dg.zero) ((D2 l h).getD 1 (Dd h)):=by
  rw [T3 (i:=0) Aa Dg.zero (Dd h)];rfl
 have d1:=decide_eq_true e1;(refine es 14 ?_;simp (maxSteps:=2000000) only [Ary,Ar7,d1,w1,w2,w3,W0,↓Ax,ex,Ro,Cr,Dy,Ag,Nat.reduceLT,Int.reduceLE,Int.reduceLT,Nat.reducePow,Nat.reduceAnd,Nat.reduceOr,Nat.reduceShiftRight,Int.reduceToNat,reduceCtorEq,Nat.reduceAdd,Nat.reduceMul,Nat.reduceSub,Nat.reduceBEq,Nat.reduceEqDiff]);refine ⟨by omega,by omega,by omega,by omega,by omega,by omega,by omega,fun e2=>?_,fun e2=>?_⟩
 ·have e2:=of_decide_eq_true e2;refine ⟨⟨by omega,by omega⟩,by omega,by omega,hJ _ _ _ ?_⟩;refine Av.fr [0,1,2,581] [] hx Bg Ab ?_ ?_
  ·simp only [Me,Nat.reduceLT,reduceCtorEq,Nat.reduceEqDiff,Nat.reduceLeDiff,Nat.reduceBEq]
  ·simp only [Me,Nat.reduceLT,reduceCtorEq,Nat.reduceEqDiff,Nat.reduceLeDiff,Nat.reduceBEq];exact ⟨fun _ _=>E2 _ _ _ _ _,fun i hi=>by rw [Are (by rw [hu,e1,e2];rfl) i hi];exact (Kt _ _ _ _ _).mpr rfl⟩
 ·refine ⟨by omega,_,_,BT (Ti ok _ _) ⟨(Kt _ _ _ _ _).mpr rfl,(Kt _ _ _ _ _).mpr rfl,trivial⟩ rfl ⟨rfl,rfl⟩,?_⟩;simp only [W0,↓Ax,ex,Ro,Cr,Dy,Ag,Nat.reduceLT,Int.reduceLE,Int.reduceLT,Nat.reducePow,Nat.reduceAnd,Nat.reduceOr,Nat.reduceShiftRight,Int.reduceToNat,reduceCtorEq,Nat.reduceAdd,Nat.reduceMul,Nat.reduceSub,Nat.reduceBEq,Nat.reduceEqDiff];refine ⟨by omega,.inr Aa,hJ _ _ _ ?_⟩;refine Av.fr [0,1,2,773] [] hx Bg Ab ?_ ?_
  ·simp only [Me,Nat.reduceLT,reduceCtorEq,Nat.reduceEqDiff,Nat.reduceLeDiff,Nat.reduceBEq]
  ·simp only [Me,Nat.reduceLT,reduceCtorEq,Nat.reduceEqDiff,Nat.reduceLeDiff,Nat.reduceBEq];exact ⟨fun _ _=>E2 _ _ _ _ _,fun i hi=>by rw [Are hu i hi];exact (Kt _ _ _ _ _).mpr rfl⟩
theorem Awj {x:Ctx} {Q:List V→Hp→Nat→Prop} (ok:OkM M) (hx:x.k=0) {d h:Nat} {l:List Dg} (hd:d≤16) (hlt:(h:Int) < d) (hn:(D2 l h).length≤65536) (hlt2:(0:Int) < (D2 l h).length)
 (e1:¬ (D2 l h).getD 0 Dg.zero=Dd h) {rest:List It} {J:List V→Hp→Nat→Prop}
 (hJ:∀ A H N,Av M x A H N (fr 99 [(5,.ptr 0 []),(6,.nili),(7,.ptr 1 []),(8,.sl 2 [] 0 (h + 1) 1),(9,.int .i64 h),(10,.sl 3 [] 0 1 32),(11,.lst 32 (D2 l h).length (dgs (D2 l h))),(12,.int .i64 2),(34,.int .i64 d),(35,.int .i64 h)])
  [(0,.ar 32 17 (fun _=>dg Dg.zero)),(1,.ar 32 17 (fun j=>dg (Dd j))),(2,.ar 1 (h + 1) (U3 l)),(3,.ar 32 1 (fun j=>dg (upN (Dd h) (D2 l h) j)))] 4→J A H N) :
 F8 M x Q (.code Ary :: .blk 4 :: .code Ar7 :: .inv J :: rest) 5 (fr 99 [(5,.ptr 0 []),(6,.nili),(7,.ptr 1 []),(8,.sl 2 [] 0 (h + 1) 1),(9,.int .i64 h),(10,.nils),(11,.lst 32 (D2 l h).length (dgs (D2 l h))),(12,.int .i64 0),(13,.ptr 4 []),(34,.int .i64 d),(35,.int .i64 h)])
  ((4,dg ((D2 l h).getD 1 (Dd h))) :: (0,.ar 32 17 (fun _=>dg Dg.zero)) :: (1,.ar 32 17 (fun j=>dg (Dd j))) :: (2,.ar 1 (h + 1) (U3 l)) :: []):=by
 have w1:IntKind.i64.wrap ((0:Int) + 1)=1:=rfl;have w2:IntKind.i64.wrap ((0:Int) + 2)=2:=rfl;have w3:IntKind.i64.wrap ((h:Int) + 1)=((h + 1:Nat):Int):=B7;have hu:upN (Dd h) (D2 l h) 0=Ajh ((D2 l h).getD 0 Dg.zero) ((D2 l h).getD 1 (Dd h)):=by
  rw [T3 (i:=0) Aa Dg.zero (Dd h)];rfl
 have d1:=decide_eq_false e1;(refine es 14 ?_;simp (maxSteps:=2000000) only [Ary,Ar7,d1,w1,w2,w3,W0,↓Ax,ex,Ro,Cr,Dy,Ag,Nat.reduceLT,Int.reduceLE,Int.reduceLT,Nat.reducePow,Nat.reduceAnd,Nat.reduceOr,Nat.reduceShiftRight,Int.reduceToNat,reduceCtorEq,Nat.reduceAdd,Nat.reduceMul,Nat.reduceSub,Nat.reduceBEq,Nat.reduceEqDiff]);refine ⟨by omega,by omega,by omega,by omega,?_⟩
 ·refine ⟨by omega,_,_,BT (Ti ok _ _) ⟨(Kt _ _ _ _ _).mpr rfl,(Kt _ _ _ _ _).mpr rfl,trivial⟩ rfl ⟨rfl,rfl⟩,?_⟩;simp only [W0,↓Ax,ex,Ro,Cr,Dy,Ag,Nat.reduceLT,Int.reduceLE,Int.reduceLT,Nat.reducePow,Nat.reduceAnd,Nat.reduceOr,Nat.reduceShiftRight,Int.reduceToNat,reduceCtorEq,Nat.reduceAdd,Nat.reduceMul,Nat.reduceSub,Nat.reduceBEq,Nat.reduceEqDiff];refine ⟨by omega,.inr Aa,hJ _ _ _ ?_⟩;refine Av.fr [0,1,2,773] [] hx Bg Ab ?_ ?_
  ·simp only [Me,Nat.reduceLT,reduceCtorEq,Nat.reduceEqDiff,Nat.reduceLeDiff,Nat.reduceBEq]
  ·simp only [Me,Nat.reduceLT,reduceCtorEq,Nat.reduceEqDiff,Nat.reduceLeDiff,Nat.reduceBEq];exact ⟨fun _ _=>E2 _ _ _ _ _,fun i hi=>by rw [Are hu i hi];exact (Kt _ _ _ _ _).mpr rfl⟩
theorem Ays {x:Ctx} {Q:List V→Hp→Nat→Prop} (ok:OkM M) (hx:x.k=0) {d h:Nat} {q:Nat} {l:List Dg} (hd:d≤16) (hlt:(h:Int) < d) (hn:(D2 l h).length≤65536) (hlt2:((2 * q:Nat):Int) < (D2 l h).length)
 (e1:(D2 l h).getD (2 * q) Dg.zero=Dd h) {rest:List It} {J:List V→Hp→Nat→Prop}
 (hJ:∀ A H N,Av M x A H N (fr 99 [(5,.ptr 0 []),(6,.nili),(7,.ptr 1 []),(8,.sl 2 [] 0 (h + 1) 1),(9,.int .i64 h),(10,.sl 3 [] 0 (q + 1) 32),(11,.lst 32 (D2 l h).length (dgs (D2 l h))),(12,.int .i64 (2 * (q + 1):Nat)),(34,.int .i64 d),(35,.int .i64 h)])
  [(0,.ar 32 17 (fun _=>dg Dg.zero)),(1,.ar 32 17 (fun j=>dg (Dd j))),(2,.ar 1 (h + 1) (U3 l)),(3,.ar 32 (q + 1) (fun j=>dg (upN (Dd h) (D2 l h) j)))] 4→J A H N) :
 F8 M x Q (.code Ary :: .blk 4 :: .code Ar7 :: .inv J :: rest) 5 (fr 99 [(5,.ptr 0 []),(6,.nili),(7,.ptr 1 []),(8,.sl 2 [] 0 (h + 1) 1),(9,.int .i64 h),(10,.sl 3 [] 0 q 32),(11,.lst 32 (D2 l h).length (dgs (D2 l h))),(12,.int .i64 (2 * q:Nat)),(13,.ptr 4 []),(34,.int .i64 d),(35,.int .i64 h)])
  ((4,dg ((D2 l h).getD (2 * q + 1) (Dd h))) :: (0,.ar 32 17 (fun _=>dg Dg.zero)) :: (1,.ar 32 17 (fun j=>dg (Dd j))) :: (2,.ar 1 (h + 1) (U3 l)) :: [(3,.ar 32 q (fun j=>dg (upN (Dd h) (D2 l h) j)))]):=by
 have w1:IntKind.i64.wrap (((2 * q:Nat):Int) + 1)=((2 * q + 1:Nat):Int):=B7;have w2:IntKind.i64.wrap (((2 * q:Nat):Int) + 2)=((2 * (q + 1):Nat):Int):=B7;have w3:IntKind.i64.wrap ((h:Int) + 1)=((h + 1:Nat):Int):=B7;have hu:upN (Dd h) (D2 l h) q=Ajh ((D2 l h).getD (2 * q) Dg.zero) ((D2 l h).getD (2 * q + 1) (Dd h)):=by
  rw [T3 (i:=2 * q) Aa Dg.zero (Dd h)];rfl
 have d1:=decide_eq_true e1;(refine es 14 ?_;simp (maxSteps:=2000000) only [Ary,Ar7,d1,w1,w2,w3,W0,↓Ax,ex,Ro,Cr,Dy,Ag,Nat.reduceLT,Int.reduceLE,Int.reduceLT,Nat.reducePow,Nat.reduceAnd,Nat.reduceOr,Nat.reduceShiftRight,Int.reduceToNat,reduceCtorEq,Nat.reduceAdd,Nat.reduceMul,Nat.reduceSub,Nat.reduceBEq,Nat.reduceEqDiff]);refine ⟨by omega,by omega,by omega,by omega,by omega,by omega,by omega,fun e2=>?_,fun e2=>?_⟩
 ·have e2:=of_decide_eq_true e2;refine ⟨⟨by omega,by omega⟩,by omega,by omega,hJ _ _ _ ?_⟩;refine Av.fr [0,1,2,581] [] hx Bg Ab ?_ ?_
  ·simp only [Me,Nat.reduceLT,reduceCtorEq,Nat.reduceEqDiff,Nat.reduceLeDiff,Nat.reduceBEq]
  ·simp only [Me,Nat.reduceLT,reduceCtorEq,Nat.reduceEqDiff,Nat.reduceLeDiff,Nat.reduceBEq];exact ⟨fun _ _=>E2 _ _ _ _ _,fun i hi=>by rw [Ar0 (by rw [hu,e1,e2];rfl) i hi];exact (Kt _ _ _ _ _).mpr rfl⟩
 ·refine ⟨by omega,_,_,BT (Ti ok _ _) ⟨(Kt _ _ _ _ _).mpr rfl,(Kt _ _ _ _ _).mpr rfl,trivial⟩ rfl ⟨rfl,rfl⟩,?_⟩;simp only [W0,↓Ax,ex,Ro,Cr,Dy,Ag,Nat.reduceLT,Int.reduceLE,Int.reduceLT,Nat.reducePow,Nat.reduceAnd,Nat.reduceOr,Nat.reduceShiftRight,Int.reduceToNat,reduceCtorEq,Nat.reduceAdd,Nat.reduceMul,Nat.reduceSub,Nat.reduceBEq,Nat.reduceEqDiff];refine ⟨by omega,.inr Aa,hJ _ _ _ ?_⟩;refine Av.fr [0,1,2,773] [] hx Bg Ab ?_ ?_
  ·simp only [Me,Nat.reduceLT,reduceCtorEq,Nat.reduceEqDiff,Nat.reduceLeDiff,Nat.reduceBEq]
  ·simp only [Me,Nat.reduceLT,reduceCtorEq,Nat.reduceEqDiff,Nat.reduceLeDiff,Nat.reduceBEq];exact ⟨fun _ _=>E2 _ _ _ _ _,fun i hi=>by rw [Ar0 hu i hi];exact (Kt _ _ _ _ _).mpr rfl⟩
theorem Ay2 {x:Ctx} {Q:List V→Hp→Nat→Prop} (ok:OkM M) (hx:x.k=0) {d h:Nat} {q:Nat} {l:List Dg} (hd:d≤16) (hlt:(h:Int) < d) (hn:(D2 l h).length≤65536) (hlt2:((2 * q:Nat):Int) < (D2 l h).length)
 (e1:¬ (D2 l h).getD (2 * q) Dg.zero=Dd h) {rest:List It} {J:List V→Hp→Nat→Prop}
 (hJ:∀ A H N,Av M x A H N (fr 99 [(5,.ptr 0 []),(6,.nili),(7,.ptr 1 []),(8,.sl 2 [] 0 (h + 1) 1),(9,.int .i64 h),(10,.sl 3 [] 0 (q + 1) 32),(11,.lst 32 (D2 l h).length (dgs (D2 l h))),(12,.int .i64 (2 * (q + 1):Nat)),(34,.int .i64 d),(35,.int .i64 h)])
  [(0,.ar 32 17 (fun _=>dg Dg.zero)),(1,.ar 32 17 (fun j=>dg (Dd j))),(2,.ar 1 (h + 1) (U3 l)),(3,.ar 32 (q + 1) (fun j=>dg (upN (Dd h) (D2 l h) j)))] 4→J A H N) :
 F8 M x Q (.code Ary :: .blk 4 :: .code Ar7 :: .inv J :: rest) 5 (fr 99 [(5,.ptr 0 []),(6,.nili),(7,.ptr 1 []),(8,.sl 2 [] 0 (h + 1) 1),(9,.int .i64 h),(10,.sl 3 [] 0 q 32),(11,.lst 32 (D2 l h).length (dgs (D2 l h))),(12,.int .i64 (2 * q:Nat)),(13,.ptr 4 []),(34,.int .i64 d),(35,.int .i64 h)])
  ((4,dg ((D2 l h).getD (2 * q + 1) (Dd h))) :: (0,.ar 32 17 (fun _=>dg Dg.zero)) :: (1,.ar 32 17 (fun j=>dg (Dd j))) :: (2,.ar 1 (h + 1) (U3 l)) :: [(3,.ar 32 q (fun j=>dg (upN (Dd h) (D2 l h) j)))]):=by
 have w1:IntKind.i64.wrap (((2 * q:Nat):Int) + 1)=((2 * q + 1:Nat):Int):=B7;have w2:IntKind.i64.wrap (((2 * q:Nat):Int) + 2)=((2 * (q + 1):Nat):Int):=B7;have w3:IntKind.i64.wrap ((h:Int) + 1)=((h + 1:Nat):Int):=B7;have hu:upN (Dd h) (D2 l h) q=Ajh ((D2 l h).getD (2 * q) Dg.zero) ((D2 l h).getD (2 * q + 1) (Dd h)):=by
  rw [T3 (i:=2 * q) Aa Dg.zero (Dd h)];rfl
 have d1:=decide_eq_false e1;(refine es 14 ?_;simp (maxSteps:=2000000) only [Ary,Ar7,d1,w1,w2,w3,W0,↓Ax,ex,Ro,Cr,Dy,Ag,Nat.reduceLT,Int.reduceLE,Int.reduceLT,Nat.reducePow,Nat.reduceAnd,Nat.reduceOr,Nat.reduceShiftRight,Int.reduceToNat,reduceCtorEq,Nat.reduceAdd,Nat.reduceMul,Nat.reduceSub,Nat.reduceBEq,Nat.reduceEqDiff]);refine ⟨by omega,by omega,by omega,by omega,?_⟩
 ·refine ⟨by omega,_,_,BT (Ti ok _ _) ⟨(Kt _ _ _ _ _).mpr rfl,(Kt _ _ _ _ _).mpr rfl,trivial⟩ rfl ⟨rfl,rfl⟩,?_⟩;simp only [W0,↓Ax,ex,Ro,Cr,Dy,Ag,Nat.reduceLT,Int.reduceLE,Int.reduceLT,Nat.reducePow,Nat.reduceAnd,Nat.reduceOr,Nat.reduceShiftRight,Int.reduceToNat,reduceCtorEq,Nat.reduceAdd,Nat.reduceMul,Nat.reduceSub,Nat.reduceBEq,Nat.reduceEqDiff];refine ⟨by omega,.inr Aa,hJ _ _ _ ?_⟩;refine Av.fr [0,1,2,773] [] hx Bg Ab ?_ ?_
  ·simp only [Me,Nat.reduceLT,reduceCtorEq,Nat.reduceEqDiff,Nat.reduceLeDiff,Nat.reduceBEq]
  ·simp only [Me,Nat.reduceLT,reduceCtorEq,Nat.reduceEqDiff,Nat.reduceLeDiff,Nat.reduceBEq];exact ⟨fun _ _=>E2 _ _ _ _ _,fun i hi=>by rw [Ar0 hu i hi];exact (Kt _ _ _ _ _).mpr rfl⟩
theorem A1m {x:Ctx} {Q:List V→Hp→Nat→Prop} (ok:OkM M) (hx:x.k=0) {d h q:Nat} {l:List Dg} (hd:d≤16) (hlt:(h:Int) < d) (hn:(D2 l h).length≤65536) (hlt2:((2 * q:Nat):Int) < (D2 l h).length)
 {rest:List It} {J:List V→Hp→Nat→Prop}
 (hJ:∀ A H N,Av M x A H N (fr 99 [(5,.ptr 0 []),(6,.nili),(7,.ptr 1 []),(8,.sl 2 [] 0 (h + 1) 1),(9,.int .i64 h),(10,if q + 1=0 then .nils else .sl 3 [] 0 (q + 1) 32),(11,.lst 32 (D2 l h).length (dgs (D2 l h))),(12,.int .i64 (2 * (q + 1):Nat)),(34,.int .i64 d),(35,.int .i64 h)])
  ((0,.ar 32 17 (fun _=>dg Dg.zero)) :: (1,.ar 32 17 (fun j=>dg (Dd j))) :: (2,.ar 1 (h + 1) (U3 l)) :: (if q + 1=0 then [] else [(3,.ar 32 (q + 1) (fun j=>dg (upN (Dd h) (D2 l h) j)))])) 4→J A H N) :
 F8 M x Q (.code Ary :: .blk 4 :: .code Ar7 :: .inv J :: rest) 5 (fr 99 [(5,.ptr 0 []),(6,.nili),(7,.ptr 1 []),(8,.sl 2 [] 0 (h + 1) 1),(9,.int .i64 h),(10,if q=0 then .nils else .sl 3 [] 0 q 32),(11,.lst 32 (D2 l h).length (dgs (D2 l h))),(12,.int .i64 (2 * q:Nat)),(13,.ptr 4 []),(34,.int .i64 d),(35,.int .i64 h)])
  ((4,dg ((D2 l h).getD (2 * q + 1) (Dd h))) :: (0,.ar 32 17 (fun _=>dg Dg.zero)) :: (1,.ar 32 17 (fun j=>dg (Dd j))) :: (2,.ar 1 (h + 1) (U3 l)) :: (if q=0 then [] else [(3,.ar 32 q (fun j=>dg (upN (Dd h) (D2 l h) j)))])):=by
 by_cases hq0:q=0
 ·subst hq0;by_cases e1:(D2 l h).getD 0 Dg.zero=Dd h
  ·exact Azm ok hx hd hlt hn hlt2 e1 hJ
  ·exact Awj ok hx hd hlt hn hlt2 e1 hJ
 ·simp only [if_neg hq0];by_cases e1:(D2 l h).getD (2 * q) Dg.zero=Dd h
  ·exact Ays ok hx hd hlt hn hlt2 e1 hJ
  ·exact Ay2 ok hx hd hlt hn hlt2 e1 hJ
end Mv
namespace Mv
open Go
theorem Asz {M:Seat} (ok:OkM M) (d:Nat) (hd:d≤16) (l:List Dg) (hl:l.length≤2 ^ d) :
 As M 316 [.int .i64 d,row l] [] 0 (Q3 (Cz (.sl 0 [] 0 (d + 1) 1) (.ar 32 17 (fun j=>dg (Dd j))) .nili) [(0,.ar 1 (d + 1) (U3 l))] 1):=by
 refine Ac ok.k316 rfl fun x hx=>?_;refine es 30 ?_;simp only [Axy,Azy,row,GR,↓Ax,ex,Ro,Cr,Dy,Ag,seval];refine BT (NB ok) trivial rfl ?_;simp only [GR,↓Ax,ex,Ro,Cr,Dy,Ag,seval];have h1:decide ((d:Int) < 0)=false:=BF;have h2:decide ((16:Int) < d)=false:=F6;simp only [h1,h2,GR,↓Ax,ex,Ro,Cr,Dy,Ag,seval];refine ⟨by omega,fun hgt=>?_,fun _=>?_⟩
 ·exfalso;have hgt:IntKind.i64.wrap (1 * 2 ^ min d IntKind.i64.bits) < l.length:=by simpa using hgt
  rw [A0i hd] at hgt;omega
 refine Au (σ:=Nat) (fun h=>h≤d) (fun h=>fr 99 [(5,.ptr 0 []),(6,.nili),(7,.ptr 1 []),(8,.sl 2 [] 0 (h + 1) 1),(34,.int .i64 d),(35,.int .i64 h)])
  (fun h=>[(0,.ar 32 17 (fun _=>dg Dg.zero)),(1,.ar 32 17 (fun j=>dg (Dd j))),(2,.ar 1 (h + 1) (U3 l))]) (fun _=>3) (fun h=>d - h) 0 Aa ?_ ?_
 ·refine Av.fr [16,64,320] [] hx Bg Ab ?_ ?_
  ·simp only [Me,seval]
  ·simp only [Me,seval,dg0];intro j hj;have:j=0:=Aa;subst this;simp only [U3,row,Me,seval]
 ·intro h hh;(refine es 40 ?_;simp (maxSteps:=2000000) only [W0,↓Ax,ex,Ro,Cr,Dy,Ag,seval]);refine ⟨fun hlt=>?_,fun hge=>?_⟩
  ·have hlt:(h:Int) < d:=by simpa using hlt
   simp only [Art,Asd,Atz,GR,↓Ax,ex,Ro,Cr,Dy,Ag,seval];repeat refine sd ?_
   refine Au (σ:=Nat) (fun q=>q≤((D2 l h).length + 1) / 2) (fun q=>fr 99 [(5,.ptr 0 []),(6,.nili),(7,.ptr 1 []),(8,.sl 2 [] 0 (h + 1) 1),(9,.int .i64 h),(10,if q=0 then .nils else .sl 3 [] 0 q 32),(11,U3 l h),(12,.int .i64 (2 * q:Nat)),(34,.int .i64 d),(35,.int .i64 h)])
    (fun q=>(0,.ar 32 17 (fun _=>dg Dg.zero)) :: (1,.ar 32 17 (fun j=>dg (Dd j))) :: (2,.ar 1 (h + 1) (U3 l)) :: (if q=0 then [] else [(3,.ar 32 q (fun j=>dg (upN (Dd h) (D2 l h) j)))])) (fun _=>4) (fun q=>(D2 l h).length + 1 - q) 0 Aa ?_ ?_
   ·refine Av.fr [0,1,2] [] hx Bg Ab ?_ ?_
    ·simp only [Me,seval];first | exact ⟨U1 _ _ _ _ _,rfl⟩ | exact U1 _ _ _ _ _
    ·simp only [Me,seval];exact fun _ _=>E2 _ _ _ _ _
   ·intro q hq;rcases G2 l h with hv | ⟨hv,hL⟩
    ·simp only [hv];(refine es 14 ?_;simp (maxSteps:=2000000) only [W0,↓Ax,ex,Ro,Cr,Dy,Ag,seval]);have hn:(D2 l h).length≤65536:=Nat.le_trans (Asa l h) (Nat.le_trans hl (Nat.pow_le_pow_right (n:=2) Aa hd));refine ⟨fun hlt2=>?_,fun hge2=>?_⟩
     ·have hlt2:((2 * q:Nat):Int) < (D2 l h).length:=of_decide_eq_true hlt2;have w1:IntKind.i64.wrap (((2 * q:Nat):Int) + 1)=((2 * q + 1:Nat):Int):=B7;have w2:IntKind.i64.wrap (((2 * q:Nat):Int) + 2)=((2 * (q + 1):Nat):Int):=B7;have w3:IntKind.i64.wrap ((h:Int) + 1)=((h + 1:Nat):Int):=B7;simp only [w1,Int.toNat_natCast];refine A0m (fr 99 [(5,.ptr 0 []),(6,.nili),(7,.ptr 1 []),(8,.sl 2 [] 0 (h + 1) 1),(9,.int .i64 h),(10,if q=0 then .nils else .sl 3 [] 0 q 32),(11,.lst 32 (D2 l h).length (dgs (D2 l h))),(12,.int .i64 (2 * q:Nat)),(13,.ptr 4 []),(34,.int .i64 d),(35,.int .i64 h)])
       ((4,dg ((D2 l h).getD (2 * q + 1) (Dd h))) :: (0,.ar 32 17 (fun _=>dg Dg.zero)) :: (1,.ar 32 17 (fun j=>dg (Dd j))) :: (2,.ar 1 (h + 1) (U3 l)) :: (if q=0 then [] else [(3,.ar 32 q (fun j=>dg (upN (Dd h) (D2 l h) j)))])) 5 ?_
       (fun key=>⟨⟨by omega,by omega⟩,by omega,fun ho=>⟨⟨by omega,of_decide_eq_true ho⟩,F8.weak _ _ _ ?_ key⟩,fun ho=>F8.weak _ _ _ ?_ key⟩)
      ·exact A1m ok hx hd hlt hn hlt2 (fun A H N hw=>⟨q + 1,by omega,by omega,hw⟩)
      ·have ho:=of_decide_eq_true ho;refine Av.fr [0,1,2,3,116] [] hx Bg Ab ?_ ?_
       ·simp only [Me,seval];by_cases hq0:q=0
        ·simp only [if_pos hq0,Me,seval]
        ·simp only [if_neg hq0,Me,seval]
       ·simp only [Me,seval];refine ⟨T3 Aa _ _,fun _ _=>E2 _ _ _ _ _,?_⟩;by_cases hq0:q=0
        ·simp only [if_pos hq0,Me,seval]
        ·simp only [if_neg hq0,Me,seval]
      ·have ho:=of_decide_eq_false ho;refine Av.fr [0,1,2,3,116] [] hx Bg Ab ?_ ?_
       ·simp only [Me,seval];by_cases hq0:q=0
        ·simp only [if_pos hq0,Me,seval]
        ·simp only [if_neg hq0,Me,seval]
       ·simp only [Me,seval];refine ⟨(S0 Aa _).symm,fun _ _=>E2 _ _ _ _ _,?_⟩;by_cases hq0:q=0
        ·simp only [if_pos hq0,Me,seval]
        ·simp only [if_neg hq0,Me,seval]
     ·have hge2:¬ ((2 * q:Nat):Int) < (D2 l h).length:=of_decide_eq_false hge2;have hqe:q=((D2 l h).length + 1) / 2:=Aa;have w3:IntKind.i64.wrap ((h:Int) + 1)=((h + 1:Nat):Int):=B7;by_cases hq0:q=0
      ·simp only [if_pos hq0,W0,↓Ax,ex,Ro,Cr,Dy,Ag,seval];repeat refine sd ?_
       refine ⟨h + 1,by omega,by omega,?_⟩;refine Av.fr [0,1,116] [] hx Bg Ab ?_ ?_
       ·simp only [Me,seval,w3]
       ·simp only [Me,seval];have hup:D2 l (h + 1)=[]:=List.length_eq_zero_iff.mp (by rw [D2,Aq5];omega);intro i hi;by_cases h2:i < h + 1
        ·rw [if_pos h2];exact E2 _ _ _ _ _
        ·have:i=h + 1:=Aa;subst this;simp only [U3,hup,if_neg (Nat.add_one_ne_zero h),Dh,Nat.lt_irrefl,Aw,ite_self]
      ·simp only [if_neg hq0,W0,↓Ax,ex,Ro,Cr,Dy,Ag,seval];repeat refine sd ?_
       refine ⟨h + 1,by omega,by omega,?_⟩;refine Av.fr [0,1,116] [3] hx Bg Ab ?_ ?_
       ·simp only [Me,seval,w3]
       ·simp only [Me,seval];have hlen:(D2 l (h + 1)).length=q:=by rw [D2,Aq5];omega
        have hup:D2 l (h + 1) ≠ []:=fun h=>by rw [h] at hlen;exact hq0 hlen.symm
        intro i hi;by_cases h2:i < h + 1
        ·rw [if_pos h2];exact E2 _ _ _ _ _
        ·have:i=h + 1:=Aa;subst this;simp only [U3,if_neg hup,if_neg (Nat.add_one_ne_zero h),Nat.lt_irrefl,Me,Nat.sub_self,row,hlen,seval];intro j hj;rw [D2,Awc _ _ _ _ Aa]
    ·have hq0:q=0:=by rw [hL] at hq;simpa using hq
     subst hq0;have dz:decide ((0:Int) < 0)=false:=rfl;have w3:IntKind.i64.wrap ((h:Int) + 1)=((h + 1:Nat):Int):=B7;simp only [hv,if_true];(refine es 40 ?_;simp (maxSteps:=2000000) only [dz,W0,↓Ax,ex,Ro,Cr,Dy,Ag,seval]);repeat refine sd ?_
     refine ⟨h + 1,by omega,by omega,?_⟩;refine Av.fr [0,1,116] [] hx Bg Ab ?_ ?_
     ·simp only [Me,seval,w3]
     ·simp only [Me,seval];have hup:D2 l (h + 1)=[]:=List.length_eq_zero_iff.mp (by rw [D2,Aq5,hL];rfl);intro i hi;by_cases h2:i < h + 1
      ·rw [if_pos h2];exact E2 _ _ _ _ _
      ·have:i=h + 1:=Aa;subst this;simp only [U3,hup,if_neg (Nat.add_one_ne_zero h),Dh,Nat.lt_irrefl,Aw,ite_self]
  ·have hge:¬ (h:Int) < d:=by simpa using hge
   have hhd:h=d:=Aa;subst hhd;refine Ay.mk hx [2] [] (Cz (.sl 0 [] 0 (h + 1) 1) (.ar 32 17 (fun j=>dg (Dd j))) .nili) [(0,.ar 1 (h + 1) (U3 l))] 1 Ab ?_ ?_ ?_ ⟨rfl,rfl,rfl⟩
   ·simp only [Laj,Lk,GR,↓Ax,ex,Ro,Cr,Dy,Ag,seval]
   ·simp only [La6,KI,Cz,LR,↓Ax,ex,Ro,Cr,Dy,Ag,seval]
   ·simp only [Me,seval];exact fun _ _=>E2 _ _ _ _ _
end Mv
