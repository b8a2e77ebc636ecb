/- A part. -/
import Derived.Test.YtlfkjfonpacelaaGreatDoorET
set_option linter.all false
set_option maxRecDepth 20000
set_option maxHeartbeats 4000000
namespace Mv
open Go
def Gt (l:List Dg) (h q:Nat):Dg:=(BH l h).getD q (At h)
theorem Sg (l:List Dg) (q:Nat):Gt l 0 q=l.getD q Dg.zero:=rfl
theorem Ii (l:List Dg) (h q:Nat):Gt l (h + 1) q=BW (Gt l h (2 * q)) (Gt l h (2 * q + 1)):=by
 unfold Gt
 by_cases hq:q < ((BH l h).length + 1) / 2
 ·rw [BH,Adt _ _ _ _ hq];rfl
 ·rw [Ee (by rw [BH,Io];omega),Ee Aa,Ee Aa];rfl
theorem S3 (l:List Dg) (hl:0 < l.length):∀ h,0 < (BH l h).length
 | 0=>hl
 | h + 1 => by
   have:=S3 l hl h
   rw [BH,Io];omega
theorem BT (m:List Nat) (l:List Dg) (h:Nat):(FB l h).ren m=FB l h:=by
 rcases De l h with e | ⟨e,_⟩ <;> rw [e] <;> rfl
theorem Oy (H:Hp) (m z:List Nat) (l:List Dg):Bk H m z (row l) (row l):=by
 simp only [row,Bk,Ar,true_and]
 exact fun j _=>(AW _ _ _ _ _).mpr rfl
theorem Gn {M:Seat} (ok:OkM M) (d:Nat) (hd:d≤16) (l:List Dg) (hl:l.length≤2 ^ d) :
 Af M 200 [.int .i64 d,row l] [] 0 (Q3 (Ah (dg (Gt l d 0)) .nili) [] 0):=by
 refine Ab ok.k200 rfl fun x hx=>?_
 refine es 30 ?_
 simp only [f200,Amc,El,↓Ad,ex,Ro,Bi,Bt,Ae,seval]
 refine Cj (IM ok d hd l hl) False [] [] List.nodup_nil B1 rfl B1 ⟨rfl,Oy _ _ _ _,trivial⟩ trivial ?_
 rintro v H' k' ⟨rfl,rfl,rfl⟩
 refine ⟨⟨by omega,fun h=>h.elim⟩,?_⟩
 have hnum:Bp [] 64 1=[64]:=rfl
 simp only [hnum,CI,LN,V.ren,AM,A5,BJ,BT,Lag,List.append_nil,DX,ne_eq,C2,seval]
 by_cases h0:l.length=0
 ·have d0:decide ((l.length:Int)=0)=true:=by rw [h0];rfl
  have hn:Gt l d 0=At d:=Ee (by have:=NF l d;omega) _
  simp (maxSteps:=2000000) only [row,AI,AL,d0,El,↓Ad,ex,Ro,Bi,Bt,Ae,seval]
  repeat refine sd ?_
  simp only [hn]
  refine Ap.mk hx [] [] (Ah (dg (At d)) .nili) [] 0 Aj ?_ ?_ trivial ⟨rfl,rfl,rfl⟩
  ·simp only [Lbb,↓Ad,ex,Ro,Bi,Bt,Ae,seval]
   rfl
  ·simp only [Zq,↓Ad,ex,Ro,Bi,Bt,Ae,seval]
 ·have d0:decide ((l.length:Int)=0)=false:=decide_eq_false Aa
  have hpos:=S3 l Aa d
  rcases De l d with hv | ⟨hv,hL⟩
  ·simp (maxSteps:=2000000) only [row,AI,AL,d0,EG,FK,HL,hv,El,↓Ad,ex,Ro,Bi,Bt,Ae,seval]
   repeat refine sd ?_
   have hn:(BH l d).getD 0 Dg.zero=Gt l d 0:=Fj hpos _ _
   simp only [hn]
   refine Ap.mk hx [] [] (Ah (dg (Gt l d 0)) .nili) [] 0 Aj ?_ ?_ trivial ⟨rfl,rfl,rfl⟩
   ·simp only [Lbb,↓Ad,ex,Ro,Bi,Bt,Ae,seval]
    rfl
   ·simp only [Zq,↓Ad,ex,Ro,Bi,Bt,Ae,seval]
  ·rw [hL] at hpos;simp at hpos
theorem Ak8 {g:Nat} (h:g < 4611686018427387904):IntKind.i64.wrap ((g:Int).tdiv 2)=((g / 2:Nat):Int):=by
 rw [Int.tdiv_eq_ediv_of_nonneg Aa,B5 Aa];omega
theorem ZQ (i q:Nat):i / 2 ^ (q + 1)=i / 2 ^ q / 2:=by rw [Nat.pow_succ,Nat.div_div_eq_div_mul]
def DF (l:List Dg) (i h:Nat):Dg:=Gt l h ((i / 2 ^ h) ^^^ 1)
theorem VC {f:Nat→Dg} {q:Nat} {v:Dg} (hu:f q=v) (i:Nat) (hi:i < q + 1):(if i < q then dg (f i) else if i - q=0 then dg v else V.ar 1 32 (fun _=>V.int .u8 0))=dg (f i):=by
 by_cases h:i < q
 ·rw [if_pos h]
 ·have:i=q:=Aa
  subst this
  rw [if_neg h,if_pos Aa,hu]
theorem VB {f:Nat→Dg} {v:Dg} (hu:f 0=v) (i:Nat) (hi:i < 1):(if i=0 then dg v else V.ar 1 32 (fun _=>V.int .u8 0))=dg (f i):=by
 have:i=0:=Aa
 subst this
 rw [if_pos rfl,hu]
theorem Akd {g:Nat} (h:g < 4611686018427387904):IntKind.i64.wrap (((BitVec.ofInt IntKind.i64.bits (g:Int) ^^^ BitVec.ofInt IntKind.i64.bits 1).toNat:Nat):Int)=((g ^^^ 1:Nat):Int):=by
 show IntKind.i64.wrap (((BitVec.ofInt 64 (g:Int) ^^^ BitVec.ofInt 64 ((1:Nat):Int)).toNat:Nat):Int)=_
 have h2:g ^^^ 1 < 2 ^ 63:=Nat.xor_lt_two_pow Aa Aa
 rw [Cv,Cv,BitVec.toNat_xor,BitVec.toNat_ofNat,BitVec.toNat_ofNat,Nat.mod_eq_of_lt Aa,Nat.mod_eq_of_lt Aa]
 rw [B5 Aa]
theorem UA {M:Seat} (ok:OkM M) (d:Nat) (hd0:0 < d) (hd:d≤16) (l:List Dg) (hl:l.length≤2 ^ d) (i:Nat) (hi:i < 2 ^ d) :
 Af M 198 [.int .i64 d,row l,.int .i64 i] [] 0 (Q3 (Ah (.sl 0 [] 0 d 32) .nili) [(0,.ar 32 d (fun h=>dg (DF l i h)))] 1):=by
 have h16:2 ^ d≤2 ^ 16:=Nat.pow_le_pow_right Aa hd
 refine Ab ok.k198 rfl fun x hx=>?_
 refine es 30 ?_
 simp only [f198,Akh,El,↓Ad,ex,Ro,Bi,Bt,Ae,seval]
 refine Cj (IM ok d hd l hl) False [] [] List.nodup_nil B1 rfl B1 ⟨rfl,Oy _ _ _ _,trivial⟩ trivial ?_
 rintro v H' k' ⟨rfl,rfl,rfl⟩
 refine ⟨⟨by omega,fun h=>h.elim⟩,?_⟩
 have hnum:Bp [] 64 1=[64]:=rfl
 simp only [hnum,CI,LN,V.ren,AM,A5,BJ,BT,Lag,List.append_nil,DX,ne_eq,C2,seval]
 have d1:decide ((i:Int) < 0)=false:=decide_eq_false Aa
 have w0:=Ad6 hd
 have d3:decide (((2 ^ d:Nat):Int)≤i)=false:=decide_eq_false Aa
 simp (maxSteps:=2000000) only [AI,AL,d1,d3,w0,El,↓Ad,ex,Ro,Bi,Bt,Ae,seval]
 repeat refine sd ?_
 refine An (σ:=Nat) (fun h=>h≤d) (fun h=>fr 65 [(2,.int .i64 (i / 2 ^ h:Nat)),(8,.sl 1 [] 0 (d + 1) 1),(9,.ptr 0 []),(11,if h=0 then .nils else .sl 2 [] 0 h 32),(34,.int .i64 d),(35,.int .i64 h)])
  (fun h=>(0,.ar 32 17 (fun j=>dg (At j))) :: (1,.ar 1 (d + 1) (FB l)) :: (if h=0 then [] else [(2,.ar 32 h (fun j=>dg (DF l i j)))])) (fun _=>3) (fun h=>d - h) 0 Aa ?_ ?_
 ·refine Ak.fr [144,64] [] hx AQ Aj ?_ ?_
  ·simp only [B2,seval,Nat.pow_zero,Nat.div_one]
  ·simp only [B2,seval]
   exact fun _ _=>Bo _ _ _ _ _
 ·intro h hh
  have hle:i / 2 ^ h≤i:=Nat.div_le_self _ _
  have w1:IntKind.i64.wrap (((i / 2 ^ h:Nat):Int).tdiv 2)=((i / 2 ^ (h + 1):Nat):Int):=by rw [Ak8 Aa,ZQ]
  have w2:IntKind.i64.wrap ((h:Int) + 1)=((h + 1:Nat):Int):=Bw
  have w4:=Akd (g:=i / 2 ^ h) Aa
  by_cases hhd:h=d
  ·have d0:decide ((h:Int) < d)=false:=decide_eq_false Aa
   have hne:h ≠ 0:=Aa
   simp only [if_neg hne]
   (refine es 18 ?_;simp (maxSteps:=2000000) only [d0,El,↓Ad,ex,Ro,Bi,Bt,Ae,seval])
   subst hhd
   refine Ap.mk hx [2] [] (Ah (.sl 0 [] 0 h 32) .nili) [(0,.ar 32 h (fun j=>dg (DF l i j)))] 1 Aj ?_ ?_ ?_ ⟨rfl,rfl,rfl⟩
   ·simp only [Lbb,↓Ad,ex,Ro,Bi,Bt,Ae,seval]
   ·simp only [Zq,↓Ad,ex,Ro,Bi,Bt,Ae,seval]
   ·simp only [B2,seval]
  have d0:decide ((h:Int) < d)=true:=decide_eq_true Aa
  rcases De l h with hv | ⟨hv,hL⟩
  ·by_cases hk:(i / 2 ^ h) ^^^ 1 < (BH l h).length
   ·have d5:decide ((((i / 2 ^ h) ^^^ 1:Nat):Int) < (BH l h).length)=true:=decide_eq_true Aa
    (refine es 18 ?_;simp (maxSteps:=2000000) only [d0,w1,w2,w4,d5,hv,EG,FK,HL,El,↓Ad,ex,Ro,Bi,Bt,Ae,seval])
    refine SW (fr 65 [(2,.int .i64 (i / 2 ^ h:Nat)),(8,.sl 1 [] 0 (d + 1) 1),(9,.ptr 0 []),(11,if h=0 then .nils else .sl 2 [] 0 h 32),(13,.ptr 3 []),(34,.int .i64 d),(35,.int .i64 h)])
     ((3,dg (DF l i h)) :: (0,.ar 32 17 (fun j=>dg (At j))) :: (1,.ar 1 (d + 1) (FB l)) :: (if h=0 then [] else [(2,.ar 32 h (fun j=>dg (DF l i j)))])) 4 ?_
     (fun key=>⟨by omega,by omega,by omega,by omega,by omega,by omega,by omega,AK.weak _ _ _ ?_ key⟩)
    ·by_cases h0:h=0
     ·subst h0
      simp only [if_true]
      (refine es 40 ?_;simp (maxSteps:=2000000) only [w1,w2,El,↓Ad,ex,Ro,Bi,Bt,Ae,seval])
      repeat refine sd ?_
      refine ⟨0 + 1,by omega,by omega,?_⟩
      refine Ak.fr [0,1,52] [] hx AQ Aj ?_ ?_
      ·simp only [if_neg (Nat.add_one_ne_zero 0),B2,seval]
       rfl
      ·simp only [if_neg (Nat.add_one_ne_zero 0),B2,seval]
       exact ⟨fun _ _=>Bo _ _ _ _ _,fun j hj=>by rw [VB (f:=DF l i) rfl j hj];exact (AW _ _ _ _ _).mpr rfl⟩
     ·simp only [if_neg h0]
      (refine es 40 ?_;simp (maxSteps:=2000000) only [w1,w2,El,↓Ad,ex,Ro,Bi,Bt,Ae,seval])
      repeat refine sd ?_
      refine ⟨h + 1,by omega,by omega,?_⟩
      refine Ak.fr [0,1,52] [] hx AQ Aj ?_ ?_
      ·simp only [if_neg (Nat.add_one_ne_zero h),B2,seval]
      ·simp only [if_neg (Nat.add_one_ne_zero h),B2,seval]
       exact ⟨fun _ _=>Bo _ _ _ _ _,fun j hj=>by rw [VC (f:=DF l i) rfl j hj];exact (AW _ _ _ _ _).mpr rfl⟩
    ·refine Ak.fr [0,1,2,99] [] hx AQ Aj ?_ ?_
     ·simp only [B2,seval]
      by_cases h0:h=0
      ·simp only [if_pos h0,B2,seval]
      ·simp only [if_neg h0,B2,seval]
     ·simp only [B2,seval]
      refine ⟨Fj hk _ _,fun _ _=>Bo _ _ _ _ _,?_⟩
      by_cases h0:h=0
      ·simp only [if_pos h0,B2,seval]
      ·simp only [if_neg h0,B2,seval]
   ·have d5:decide ((((i / 2 ^ h) ^^^ 1:Nat):Int) < (BH l h).length)=false:=decide_eq_false Aa
    (refine es 18 ?_;simp (maxSteps:=2000000) only [d0,w1,w2,w4,d5,hv,EG,FK,HL,El,↓Ad,ex,Ro,Bi,Bt,Ae,seval])
    refine SW (fr 65 [(2,.int .i64 (i / 2 ^ h:Nat)),(8,.sl 1 [] 0 (d + 1) 1),(9,.ptr 0 []),(11,if h=0 then .nils else .sl 2 [] 0 h 32),(13,.ptr 3 []),(34,.int .i64 d),(35,.int .i64 h)])
     ((3,dg (DF l i h)) :: (0,.ar 32 17 (fun j=>dg (At j))) :: (1,.ar 1 (d + 1) (FB l)) :: (if h=0 then [] else [(2,.ar 32 h (fun j=>dg (DF l i j)))])) 4 ?_
     (fun key=>⟨by omega,by omega,by omega,by omega,AK.weak _ _ _ ?_ key⟩)
    ·by_cases h0:h=0
     ·subst h0
      simp only [if_true]
      (refine es 40 ?_;simp (maxSteps:=2000000) only [w1,w2,El,↓Ad,ex,Ro,Bi,Bt,Ae,seval])
      repeat refine sd ?_
      refine ⟨0 + 1,by omega,by omega,?_⟩
      refine Ak.fr [0,1,52] [] hx AQ Aj ?_ ?_
      ·simp only [if_neg (Nat.add_one_ne_zero 0),B2,seval]
       rfl
      ·simp only [if_neg (Nat.add_one_ne_zero 0),B2,seval]
       exact ⟨fun _ _=>Bo _ _ _ _ _,fun j hj=>by rw [VB (f:=DF l i) rfl j hj];exact (AW _ _ _ _ _).mpr rfl⟩
     ·simp only [if_neg h0]
      (refine es 40 ?_;simp (maxSteps:=2000000) only [w1,w2,El,↓Ad,ex,Ro,Bi,Bt,Ae,seval])
      repeat refine sd ?_
      refine ⟨h + 1,by omega,by omega,?_⟩
      refine Ak.fr [0,1,52] [] hx AQ Aj ?_ ?_
      ·simp only [if_neg (Nat.add_one_ne_zero h),B2,seval]
      ·simp only [if_neg (Nat.add_one_ne_zero h),B2,seval]
       exact ⟨fun _ _=>Bo _ _ _ _ _,fun j hj=>by rw [VC (f:=DF l i) rfl j hj];exact (AW _ _ _ _ _).mpr rfl⟩
    ·refine Ak.fr [0,1,2,99] [] hx AQ Aj ?_ ?_
     ·simp only [B2,seval]
      by_cases h0:h=0
      ·simp only [if_pos h0,B2,seval]
      ·simp only [if_neg h0,B2,seval]
     ·simp only [B2,seval]
      refine ⟨(Ee Aa _).symm,fun _ _=>Bo _ _ _ _ _,?_⟩
      by_cases h0:h=0
      ·simp only [if_pos h0,B2,seval]
      ·simp only [if_neg h0,B2,seval]
  ·have d5:decide ((((i / 2 ^ h) ^^^ 1:Nat):Int) < 0)=false:=decide_eq_false Aa
   (refine es 18 ?_;simp (maxSteps:=2000000) only [d0,w1,w2,w4,d5,hv,EG,FK,HL,El,↓Ad,ex,Ro,Bi,Bt,Ae,seval])
   refine SW (fr 65 [(2,.int .i64 (i / 2 ^ h:Nat)),(8,.sl 1 [] 0 (d + 1) 1),(9,.ptr 0 []),(11,if h=0 then .nils else .sl 2 [] 0 h 32),(13,.ptr 3 []),(34,.int .i64 d),(35,.int .i64 h)])
    ((3,dg (DF l i h)) :: (0,.ar 32 17 (fun j=>dg (At j))) :: (1,.ar 1 (d + 1) (FB l)) :: (if h=0 then [] else [(2,.ar 32 h (fun j=>dg (DF l i j)))])) 4 ?_
    (fun key=>⟨by omega,by omega,by omega,by omega,AK.weak _ _ _ ?_ key⟩)
   ·by_cases h0:h=0
    ·subst h0
     simp only [if_true]
     (refine es 40 ?_;simp (maxSteps:=2000000) only [w1,w2,El,↓Ad,ex,Ro,Bi,Bt,Ae,seval])
     repeat refine sd ?_
     refine ⟨0 + 1,by omega,by omega,?_⟩
     refine Ak.fr [0,1,52] [] hx AQ Aj ?_ ?_
     ·simp only [if_neg (Nat.add_one_ne_zero 0),B2,seval]
      rfl
     ·simp only [if_neg (Nat.add_one_ne_zero 0),B2,seval]
      exact ⟨fun _ _=>Bo _ _ _ _ _,fun j hj=>by rw [VB (f:=DF l i) rfl j hj];exact (AW _ _ _ _ _).mpr rfl⟩
    ·simp only [if_neg h0]
     (refine es 40 ?_;simp (maxSteps:=2000000) only [w1,w2,El,↓Ad,ex,Ro,Bi,Bt,Ae,seval])
     repeat refine sd ?_
     refine ⟨h + 1,by omega,by omega,?_⟩
     refine Ak.fr [0,1,52] [] hx AQ Aj ?_ ?_
     ·simp only [if_neg (Nat.add_one_ne_zero h),B2,seval]
     ·simp only [if_neg (Nat.add_one_ne_zero h),B2,seval]
      exact ⟨fun _ _=>Bo _ _ _ _ _,fun j hj=>by rw [VC (f:=DF l i) rfl j hj];exact (AW _ _ _ _ _).mpr rfl⟩
   ·refine Ak.fr [0,1,2,99] [] hx AQ Aj ?_ ?_
    ·simp only [B2,seval]
     by_cases h0:h=0
     ·simp only [if_pos h0,B2,seval]
     ·simp only [if_neg h0,B2,seval]
    ·simp only [B2,seval]
     refine ⟨by rw [DF,Gt,hL];rfl,fun _ _=>Bo _ _ _ _ _,?_⟩
     by_cases h0:h=0
     ·simp only [if_pos h0,B2,seval]
     ·simp only [if_neg h0,B2,seval]
def byt (v:Int) (i:Nat):Int:=(v / 2 ^ (56 - 8 * i)) % 256
theorem J9 {M:Seat} (hc:Av M 312 O0=true) (L o n:Nat) (g:Nat→Int) (v:Int) (hv:0≤v) (hn:8≤n) (hL:o + n≤L) :
 Af M 312 [.sl 0 [] o n 1,.int .u64 v] [(0,.ar 1 L fun j=>.int .u8 (g j))] 1 (Q3 (.tup .fnil) [(0,.ar 1 L (fun j=>.int .u8 (if o≤j∧j < o + 8 then byt v (j - o) else g j)))] 1):=by
 refine Ab hc rfl fun x hx=>?_
 refine es 30 ?_
 simp only [O0,Ahf,F1,↓Ad,ex,Ro,Bi,Bt,Ae,Nat.reduceLT,Int.reduceLE,Int.reduceLT,Nat.reducePow,Nat.reduceAnd,Nat.reduceOr,Nat.reduceShiftRight,Int.reduceToNat,reduceCtorEq,Nat.reduceAdd,Nat.reduceMul,Nat.reduceSub,Nat.reduceBEq,Nat.reduceEqDiff]
 refine An (σ:=Nat) (fun i=>i≤8) (fun i=>fr 18 [(0,.sl 0 [] o n 1),(1,.int .u64 v),(5,.int .i64 i)])
  (fun i=>[(0,.ar 1 L (fun j=>.int .u8 (if o≤j∧j < o + i then byt v (j - o) else g j)))]) (fun _=>1) (fun i=>8 - i) 0 Aa ?_ ?_
 ·refine Ak.fr [0] [] hx AQ Aj ?_ ?_
  ·simp only [L4,Nat.reduceLT,reduceCtorEq,Nat.reduceEqDiff]
   rfl
  ·simp only [L4,Nat.reduceLT,reduceCtorEq,Nat.reduceEqDiff]
   intro i hi
   rw [if_neg Aa]
 ·intro i hi
  refine es 30 ?_
  simp only [F1,↓Ad,ex,Ro,Bi,Bt,Ae,Nat.reduceLT,Int.reduceLE,Int.reduceLT,Nat.reducePow,Nat.reduceAnd,Nat.reduceOr,Nat.reduceShiftRight,Int.reduceToNat,reduceCtorEq,Nat.reduceAdd,Nat.reduceMul,Nat.reduceSub,Nat.reduceBEq,Nat.reduceEqDiff]
  refine ⟨fun hlt=>?_,fun hge=>?_⟩
  ·have hlt:(i:Int) < 8:=Ue
   have w1:IntKind.i64.wrap (8 * ↑i)=8 * i:=B5 Aa
   have w2:IntKind.i64.wrap (56 - 8 * ↑i)=56 - 8 * i:=B5 Aa
   have w3:IntKind.i64.wrap ((i:Int) + 1)=i + 1:=B5 Aa
   simp only [w1,w2,w3]
   refine ⟨by omega,⟨by omega,by omega⟩,by omega,i + 1,by omega,by omega,Ak.fr [0] [] hx AQ Aj ?_ ?_⟩
   ·simp only [L4,Nat.reduceLT,reduceCtorEq,Nat.reduceEqDiff]
    omega
   ·simp only [L4,Nat.reduceLT,reduceCtorEq,Nat.reduceEqDiff]
    intro j hj
    by_cases hji:j=o + i
    ·rw [if_pos hji,if_pos Aa,JT,Int.fdiv_eq_ediv_of_nonneg _ (Int.pow_nonneg Aa),byt]
     have e1:min (56 - 8 * (i:Int)).toNat IntKind.u64.bits=56 - 8 * (j - o):=by simp only [IntKind.bits];omega
     rw [e1]
    ·rw [if_neg hji]
     by_cases h2:o≤j∧j < o + i
     ·rw [if_pos h2,if_pos Aa]
     ·rw [if_neg h2,if_neg Aa]
  ·have hge:¬ (i:Int) < 8:=T6
   have hi8:i=8:=Aa
   subst hi8
   refine Ap.mk hx [0] [] (.tup .fnil) _ 1 Aj ?_ ?_ ?_ ⟨rfl,rfl,rfl⟩
   ·simp [En,G4,HE]
   ·simp [En,GK,Bk,Ar]
   ·simp only [L4,Nat.reduceLT,reduceCtorEq,Nat.reduceEqDiff]
    intro i hi
    trivial
variable {M:Seat}
def CF (v:BitVec 64):Dg:=Dg.mk' fun j=>if j < 24 then 0 else (v >>> (56 - 8 * (j - 24))).setWidth 8
theorem Xy (v:BitVec 64) (i:Nat):V.int .u8 (byt (v.toNat:Int) i)=B ((v >>> (56 - 8 * i)).setWidth 8):=by
 simp only [B,byt,BitVec.toNat_setWidth,Lb4]
 congr 1
theorem S0:CF 0=Dg.zero:=by
 apply Dg.ext'
 intro j hj
 rw [CF,Dg.at_mk' _ _ hj,Dg.at_zero]
 split
 ·rfl
 ·simp
theorem Yr (v:BitVec 64):V.ar 1 32 (fun i=>V.int .u8 (if 24≤i∧i < 24 + 8 then byt (v.toNat:Int) (i - 24) else 0))=dg (CF v):=by
 have h:(fun i=>V.int .u8 (if 24≤i∧i < 24 + 8 then byt (v.toNat:Int) (i - 24) else 0))=fun j=>B ((CF v).at j):=by
  funext j
  by_cases hj:j < 32
  ·rw [CF,Dg.at_mk' _ _ hj]
   by_cases h2:j < 24
   ·rw [if_pos h2,if_neg Aa];rfl
   ·rw [if_neg h2,if_pos Aa,Xy]
  ·rw [if_neg Aa]
   simp only [Dg.at,List.getD]
   rw [List.getElem?_eq_none (by rw [(CF v).h];omega)];rfl
 simp only [dg,h]
theorem Ul (ok:OkM M) (v:BitVec 64) :
 Af M 202 [W v] [] 0 (Q3 (dg (CF v)) [] 0):=by
 refine Ab ok.k202 rfl fun x hx=>?_
 refine es 30 ?_
 simp only [An7,Alt,El,↓Ad,ex,Ro,Bi,Bt,Ae,seval]
 refine Cj (J9 ok.k312 32 24 8 (fun _=>0) (v.toNat:Int) Aa Aa Aa) False [16] [] B1 B1 rfl (by simp [Ac]) (by simp only [B2,seval,W]) (by simp only [B2,seval]) ?_
 rintro r H' k' ⟨rfl,rfl,rfl⟩
 refine ⟨⟨by omega,fun h=>h.elim⟩,?_⟩
 have hnum:Bp [16] 64 1=[16]:=rfl
 simp only [hnum,LN,V.ren,AM,A5,BJ,BT,Lag,List.append_nil,DX,ne_eq,C2,seval]
 simp only [Yr,El,↓Ad,ex,Ro,Bi,Bt,Ae,seval]
 refine Ap.mk hx [] [] (dg (CF v)) [] 0 Aj ?_ ?_ trivial ⟨rfl,rfl,rfl⟩
 ·simp only [Lbb,↓Ad,ex,Ro,Bi,Bt,Ae,seval]
 ·simp only [Zq,↓Ad,ex,Ro,Bi,Bt,Ae,seval]
def mach (f g:Nat→BitVec 64) (pc:BitVec 64) (hl:Bool) (ex:BitVec 64):V :=
 .st 8211 (.fcons 0 (.ar 1 8192 (fun j=>W (f j))) (.fcons 8192 (.ar 1 16 (fun j=>W (g j))) (.fcons 8208 (W pc) (.fcons 8209 (.bool hl) (.fcons 8210 (W ex) .fnil)))))
def Tj:LC:=(sr [mt 20 3,A1 21 (.mksl 32 32 (.ar 32 (.int .u8)) (.t 20) (.t 20)),mt 4 21] (.seq (sr [mt 22 4,
  lN 23 0 22,
  mI 24 0] (.block 2 (.loop (sr [ak 25 .lss 24 23] (.seq (EQ 25 2) (.seq (.block 3 (sr [mt 26 24,mt 5 26] (.reg [mt 27 4,mt 28 5,mt 29 0,mt 30 5,nc 31 29,fa 32 0 31,ib 33 8192 1 32 30,lb 34 1 33,kl 35 202 [(.t 34)],ia 36 32 27 28,sb 32 36 35]))) (.reg [aI 37 .add 24 1,mt 24 37]))))))) (sr [mt 38 4,mt 2 38] .ret)))
abbrev SP (f:Nat→BitVec 64):V→Hp→Nat→Prop:=fun r H' k'=>∃ n,n≤8192∧(∀ j,n≤j→j < 8192→f j=0)∧r = .sl 0 [] 0 n 32∧H'=[(0,.ar 32 n (fun j=>dg (CF (f j))))]∧k'=1
theorem PR {x:Ctx} (ok:OkM M) (hx:x.k=0) (f g:Nat→BitVec 64) (pc:BitVec 64) (hl:Bool) (e:BitVec 64) (n:Nat) (hn:n≤8192) (hz:∀ j,n≤j→j < 8192→f j=0) :
 AK M x (Ap M x [.tmp 2] (SP f)) [.code Tj] 0 (fr 39 [(0,.imm (mach f g pc hl e)),(3,.int .i64 n)]) []:=by
 (refine es 40 ?_;simp (maxSteps:=2000000) only [Tj,mach,El,↓Ad,ex,Ro,Bi,Bt,Ae,seval])
 repeat refine sd ?_
 refine An (σ:=Nat) (fun q=>q≤n) (fun q=>fr 39 [(0,.imm (mach f g pc hl e)),(4,.sl 0 [] 0 n 32),(23,.int .i64 n),(24,.int .i64 q)])
  (fun q=>[(0,.ar 32 n (fun j=>dg (if j < q then CF (f j) else Dg.zero)))]) (fun _=>1) (fun q=>n - q) 0 Aa ?_ ?_
 ·refine Ak.fr [16] [] hx AQ Aj ?_ ?_
  ·simp only [B2,seval,mach]
  ·simp only [B2,seval,dg0]
   intro j hj
   rw [if_neg Aa]
 ·intro q hq
  have w1:IntKind.i64.wrap ((q:Int) + 1)=((q + 1:Nat):Int):=Bw
  (refine es 40 ?_;simp (maxSteps:=2000000) only [w1,mach,El,↓Ad,ex,Ro,Bi,Bt,Ae,seval])
  refine ⟨fun hlt=>?_,fun hge=>?_⟩
  ·have hlt:=of_decide_eq_true hlt
   repeat refine sd ?_
   refine Bv (Ul ok _) ⟨rfl,trivial⟩ rfl ?_
   simp only [El,↓Ad,ex,Ro,Bi,Bt,Ae,seval]
   repeat refine sd ?_
   refine ⟨q + 1,by omega,by omega,?_⟩
   refine Ak.fr [0] [] hx AQ Aj ?_ ?_
   ·simp only [B2,seval,mach]
   ·simp only [B2,seval]
    intro j hj
    by_cases h1:j=q
    ·rw [if_pos h1,if_pos Aa,h1]
    ·rw [if_neg h1]
     by_cases h2:j < q
     ·rw [if_pos h2,if_pos Aa]
     ·rw [if_neg h2,if_neg Aa]
  ·have hge:=of_decide_eq_false hge
   have hq:q=n:=Aa
   subst hq
   refine Ap.mk hx [0] [] (.sl 0 [] 0 q 32) [(0,.ar 32 q (fun j=>dg (CF (f j))))] 1 Aj ?_ ?_ ?_ ⟨q,hn,hz,rfl,rfl,rfl⟩
   ·simp only [Lbb,↓Ad,ex,Ro,Bi,Bt,Ae,seval]
   ·simp only [Zq,↓Ad,ex,Ro,Bi,Bt,Ae,seval]
   ·simp only [B2,seval]
    intro j hj
    rw [if_pos hj]
theorem IU (ok:OkM M) (f g:Nat→BitVec 64) (pc:BitVec 64) (hl:Bool) (e:BitVec 64) :
 Af M 199 [.imm (mach f g pc hl e)] [] 0 (SP f):=by
 refine Ab ok.k199 rfl fun x hx=>?_
 refine es 30 ?_
 simp only [f199,Anr,mach,El,↓Ad,ex,Ro,Bi,Bt,Ae,seval]
 refine An (σ:=Nat) (fun n=>n≤8192∧∀ j,n≤j→j < 8192→f j=0) (fun n=>fr 39 [(0,.imm (mach f g pc hl e)),(3,.int .i64 n)])
  (fun _=>[]) (fun _=>0) (fun n=>n) 8192 ⟨by omega,fun j h1 h2=>by omega⟩ ?_ ?_
 ·refine Ak.fr [] [] hx AQ Aj ?_ ?_
  ·simp only [B2,seval,mach]
  ·trivial
 ·intro n ⟨hn,hz⟩
  have tail:=PR ok hx f g pc hl e
  by_cases h0:n=0
  ·have d0:decide ((0:Int) < n)=false:=decide_eq_false Aa
   (refine es 5 ?_;simp (maxSteps:=2000000) only [d0,mach,El,↓Ad,ex,Ro,Bi,Bt,Ae,seval])
   refine AK.weak _ _ _ ?_ (tail n hn hz)
   refine Ak.fr [] [] hx AQ Aj ?_ ?_
   ·simp only [B2,seval,mach]
   ·trivial
  ·have d0:decide ((0:Int) < n)=true:=decide_eq_true Aa
   have w1:IntKind.i64.wrap ((n:Int) - 1)=((n - 1:Nat):Int):=Bw
   (refine es 5 ?_;simp (maxSteps:=2000000) only [d0,w1,mach,El,↓Ad,ex,Ro,Bi,Bt,Ae,seval])
   refine ⟨by omega,fun e1=>?_,fun _=>?_⟩
   ·have e1:=of_decide_eq_true e1
    have e2:f (n - 1)=0:=BitVec.eq_of_toNat_eq (by simpa using e1)
    (refine es 5 ?_;simp (maxSteps:=2000000) only [d0,w1,mach,El,↓Ad,ex,Ro,Bi,Bt,Ae,seval])
    refine ⟨n - 1,⟨by omega,fun j h1 h2=>?_⟩,by omega,?_⟩
    ·by_cases h3:j=n - 1
     ·rw [h3,e2] <;> rfl
     ·exact hz j Aa h2
    ·refine Ak.fr [] [] hx AQ Aj ?_ ?_
     ·simp only [B2,seval,mach]
     ·trivial
   ·refine AK.weak _ _ _ ?_ (tail n hn hz)
    refine Ak.fr [] [] hx AQ Aj ?_ ?_
    ·simp only [B2,seval,mach]
    ·trivial
def BP (f:Nat→BitVec 64):Nat→Nat→Dg
 | 0,q=>if q < 8192 then CF (f q) else Dg.zero
 | h + 1,q=>BW (BP f h (2 * q)) (BP f h (2 * q + 1))
def lvs (f:Nat→BitVec 64) (n:Nat):List Dg:=(List.range n).map (fun j=>CF (f j))
theorem Hy (f:Nat→BitVec 64) (n:Nat):(lvs f n).length=n:=by simp [lvs]
theorem R5 (f:Nat→BitVec 64) (n j:Nat) (hj:j < n) (d:Dg):(lvs f n).getD j d=CF (f j):=by
 simp [lvs,List.getD,List.getElem?_map,List.getElem?_range hj]
theorem H5 (f:Nat→BitVec 64) (n:Nat) (hn:n≤8192) (hz:∀ j,n≤j→j < 8192→f j=0):∀ h q,Gt (lvs f n) h q=BP f h q
 | 0, q => by
   rw [Sg,BP]
   by_cases h1:q < n
   ·rw [R5 _ _ _ h1,if_pos Aa]
   ·rw [Ee (by rw [Hy];omega)]
    split
    ·rw [hz q Aa Aa,S0]
    ·rfl
 | h + 1,q=>by rw [Ii,BP,H5 f n hn hz h,H5 f n hn hz h]
theorem Ca {M:Seat} (ok:OkM M) (f g:Nat→BitVec 64) (pc:BitVec 64) (hl:Bool) (e:BitVec 64) :
 Af M 51 [.imm (mach f g pc hl e)] [] 0 (Q3 (Ah (dg (BP f 13 0)) .nili) [] 0):=by
 refine Ab ok.k51 rfl fun x hx=>?_
 refine es 30 ?_
 simp only [f51,c51,AI,AL,El,↓Ad,ex,Ro,Bi,Bt,Ae,seval]
 refine Cj (IU ok f g pc hl e) False [] [] List.nodup_nil B1 rfl B1 (by simp only [B2,Bk,mach,seval]) trivial ?_
 rintro v H' k' ⟨n,hn,hz,rfl,rfl,rfl⟩
 refine ⟨⟨by omega,fun h=>h.elim⟩,?_⟩
 have hnum:Bp [] 80 1=[80]:=rfl
 simp only [hnum,LN,V.ren,AM,A5,BJ,BT,Lag,List.append_nil,DX,ne_eq,C2,seval]
 have hl13:(lvs f n).length≤2 ^ 13:=by rw [Hy];omega
 refine Kw [80] (Gn ok 13 Aa (lvs f n) hl13) ⟨rfl,?_,trivial⟩ rfl ?_
 ·simp only [row,Hy,B2,seval]
  intro j hj
  exact (R5 _ _ _ hj _).symm
 simp only [H5 f n hn hz,A5,Ah,El,↓Ad,ex,Ro,Bi,Bt,Ae,seval,LN,V.ren,AM,BT,Lag,List.append_nil]
 refine Ap.mk hx [] [] (Ah (dg (BP f 13 0)) .nili) [] 0 Aj ?_ ?_ trivial ⟨rfl,rfl,rfl⟩
 ·simp only [Lbb,↓Ad,ex,Ro,Bi,Bt,Ae,seval]
  rfl
 ·simp only [Zq,↓Ad,ex,Ro,Bi,Bt,Ae,seval]
theorem Dz {M:Seat} (ok:OkM M) (f g:Nat→BitVec 64) (pc:BitVec 64) (hl:Bool) (e:BitVec 64) (i:Nat) (hi:i < 8192) :
 Af M 50 [.imm (mach f g pc hl e),.int .u64 i] [] 0 (Q3 (Ah (.st 2 (.fcons 0 (W (f i)) (.fcons 1 (.sl 0 [] 0 13 32) .fnil))) .nili) [(0,.ar 32 13 (fun h=>dg (BP f h ((i / 2 ^ h) ^^^ 1))))] 1):=by
 refine Ab ok.k50 rfl fun x hx=>?_
 refine es 30 ?_
 have d1:decide ((8192:Int)≤i)=false:=decide_eq_false Aa
 simp only [f50,c50,d1,AI,AL,El,↓Ad,ex,Ro,Bi,Bt,Ae,seval]
 refine Cj (IU ok f g pc hl e) False [] [] List.nodup_nil B1 rfl B1 (by simp only [B2,Bk,mach,seval]) trivial ?_
 rintro v H' k' ⟨n,hn,hz,rfl,rfl,rfl⟩
 refine ⟨⟨by omega,fun h=>h.elim⟩,?_⟩
 have hnum:Bp [] 144 1=[144]:=rfl
 have w1:IntKind.i64.wrap (i:Int)=i:=B5 Aa
 simp only [hnum,w1,LN,V.ren,AM,A5,BJ,BT,Lag,List.append_nil,DX,ne_eq,C2,seval]
 have hl13:(lvs f n).length≤2 ^ 13:=by rw [Hy];omega
 refine Cj (UA ok 13 Aa Aa (lvs f n) hl13 i hi) False [] [144] List.nodup_nil B1 rfl B1 ⟨rfl,?_,rfl,trivial⟩ trivial ?_
 ·simp only [row,Hy,B2,seval]
  intro j hj
  exact (R5 _ _ _ hj _).symm
 rintro v H' k' ⟨rfl,rfl,rfl⟩
 refine ⟨⟨by omega,fun h=>h.elim⟩,?_⟩
 have hnum2:Bp [] 192 1=[192]:=rfl
 simp only [hnum2,Ah,DF,H5 f n hn hz,LN,V.ren,AM,A5,BJ,BT,Lag,List.append_nil,DX,ne_eq,C2,seval]
 simp only [mach,El,↓Ad,ex,Ro,Bi,Bt,Ae,seval]
 repeat refine sd ?_
 refine Ap.mk hx [192] [] (Ah (.st 2 (.fcons 0 (W (f i)) (.fcons 1 (.sl 0 [] 0 13 32) .fnil))) .nili) [(0,.ar 32 13 (fun h=>dg (BP f h ((i / 2 ^ h) ^^^ 1))))] 1 Aj ?_ ?_ ?_ ⟨rfl,rfl,rfl⟩
 ·simp only [Lbb,↓Ad,ex,Ro,Bi,Bt,Ae,seval]
 ·simp only [Zq,↓Ad,ex,Ro,Bi,Bt,Ae,seval]
 ·simp only [B2,seval]
theorem Agl (ts:List Nat):AI true (.iface ts) .nili .nili=True:=by simp [AI]
theorem Ah4 (ts:List Nat):AL (.iface ts) .nili .nili=true:=rfl
theorem Ahl (c:Bool) (ts:List Nat) (t:Nat) (v:V):AI c (.iface ts) (.ifc t v) .nili=True:=by simp [AI]
theorem Agu (ts:List Nat) (t:Nat) (v:V):AL (.iface ts) (.ifc t v) .nili=false:=by cases v <;> rfl
theorem Aht (c:Bool) (i:Nat) (p:List Stp):AI c .ptr (.ptr i p) .nilp=True:=by simp [AI]
theorem Aei (i:Nat) (p:List Stp):AL .ptr (.ptr i p) .nilp=false:=rfl
theorem Ys (c:Bool) (v:V):AI c .ptr (.imm v) .nilp=True:=by simp [AI]
theorem Yc (v:V):AL .ptr (.imm v) .nilp=false:=rfl
def Aj0 (m r:Nat) (pc:BitVec 64) (hl:Bool) (ex:BitVec 64):V :=
 .st 5 (.fcons 0 (.sl m [] 0 8192 1) (.fcons 1 (.sl r [] 0 16 1) (.fcons 2 (W pc) (.fcons 3 (.bool hl) (.fcons 4 (W ex) .fnil)))))
theorem YD (H:Hp) (m z:List Nat):Ar H m z (W 0) (V.int .u64 0)=True:=by simp only [W,Ar];exact eq_true rfl
theorem ZK (H:Hp) (m z:List Nat):Ar H m z (W 0#64) (V.int .u64 0)=True:=YD H m z
theorem My {M:Seat} (ok:OkM M) :
 Af M 74 [.nils] [] 0 (Q3 (Ah (.ptr 0 []) .nili) [(0,mach (fun _=>0) (fun _=>0) 0 false 0)] 1):=by
 refine Ab ok.k74 rfl fun x hx=>?_
 refine es 30 ?_
 have d1:decide ((8192:Int) < 0)=false:=rfl
 simp only [f74,c74,d1,El,↓Ad,ex,Ro,Bi,Bt,Ae,seval]
 refine Ap.mk hx [96] [] (Ah (.ptr 0 []) .nili) [(0,mach (fun _=>0) (fun _=>0) 0 false 0)] 1 Aj ?_ ?_ ?_ ⟨rfl,rfl,rfl⟩
 ·simp only [Lbb,↓Ad,ex,Ro,Bi,Bt,Ae,seval]
 ·simp only [Zq,↓Ad,ex,Ro,Bi,Bt,Ae,seval]
 ·simp only [mach,YD,ZK,B2,seval]
theorem BL {M:Seat} (ok:OkM M) (f g:Nat→BitVec 64) (pc:BitVec 64) (hl:Bool) (e:BitVec 64) :
 Af M 49 [.imm (mach f g pc hl e)] [] 0 (Q3 (.ptr 0 []) [(0,mach f g pc hl e)] 1):=by
 refine Ab ok.k49 rfl fun x hx=>?_
 refine es 30 ?_
 simp only [f49,c49,mach,Ys,Yc,El,↓Ad,ex,Ro,Bi,Bt,Ae,seval]
 refine Ap.mk hx [96] [] (.ptr 0 []) [(0,mach f g pc hl e)] 1 Aj ?_ ?_ ?_ ⟨rfl,rfl,rfl⟩
 ·simp only [Lbb,↓Ad,ex,Ro,Bi,Bt,Ae,seval]
 ·simp only [Zq,↓Ad,ex,Ro,Bi,Bt,Ae,seval]
 ·simp only [mach,B2,seval]
end Mv
