/- A part. -/
import Derived.Test.YtlfkjfonpacelaaGreatDoorEU
set_option linter.all false
set_option maxRecDepth 20000
set_option maxHeartbeats 4000000
namespace Mv
open Go
theorem Ht {M:Seat} (ok:OkM M) (d:Nat) (hd:d≤16) (l:List Dg) (hl:l.length≤2 ^ d) :
 Ag M 316 [.int .i64 d,row l] [] 0 (Q3 (AS (.sl 0 [] 0 (d + 1) 1) (.ar 32 17 (fun j=>dg (At j))) .nili) [(0,.ar 1 (d + 1) (EH l))] 1):=by
 refine Ab ok.k316 rfl fun x hx=>?_
 refine es 30 ?_
 simp only [Agu,Aip,row,E5,↓Ad,ex,Ro,AJ,AX,Ae,seval]
 refine AE (Gz ok) trivial rfl ?_
 simp only [E5,↓Ad,ex,Ro,AJ,AX,Ae,seval]
 have h1:decide ((d:Int) < 0)=false:=B5
 have h2:decide ((16:Int) < d)=false:=DI
 simp only [h1,h2,E5,↓Ad,ex,Ro,AJ,AX,Ae,seval]
 refine ⟨by omega,fun hgt=>?_,fun _=>?_⟩
 ·exfalso
  have hgt:IntKind.i64.wrap (1 * 2 ^ min d IntKind.i64.bits) < l.length:=by simpa using hgt
  rw [Tx hd] at hgt
  omega
 refine An (σ:=Nat) (fun h=>h≤d) (fun h=>fr 99 [(5,.ptr 0 []),(6,.nili),(7,.ptr 1 []),(8,.sl 2 [] 0 (h + 1) 1),(34,.int .i64 d),(35,.int .i64 h)])
  (fun h=>[(0,.ar 32 17 (fun _=>dg Dg.zero)),(1,.ar 32 17 (fun j=>dg (At j))),(2,.ar 1 (h + 1) (EH l))]) (fun _=>3) (fun h=>d - h) 0 Aa ?_ ?_
 ·refine Ao.fr [16,64,320] [] hx AQ Am ?_ ?_
  ·simp only [Bo,seval]
  ·simp only [Bo,seval,Ws]
   intro j hj
   have:j=0:=Aa
   subst this
   simp only [EH,row,Bo,seval]
 ·intro h hh
  (refine es 40 ?_;simp (maxSteps:=2000000) only [Cz,↓Ad,ex,Ro,AJ,AX,Ae,seval])
  refine ⟨fun hlt=>?_,fun hge=>?_⟩
  ·have hlt:(h:Int) < d:=So
   simp only [DN,EQ,G4,E5,↓Ad,ex,Ro,AJ,AX,Ae,seval]
   repeat refine sd ?_
   refine An (σ:=Nat) (fun q=>q≤((Bx l h).length + 1) / 2) (fun q=>fr 99 [(5,.ptr 0 []),(6,.nili),(7,.ptr 1 []),(8,.sl 2 [] 0 (h + 1) 1),(9,.int .i64 h),(10,if q=0 then .nils else .sl 3 [] 0 q 32),(11,EH l h),(12,.int .i64 (2 * q:Nat)),(34,.int .i64 d),(35,.int .i64 h)])
    (fun q=>(0,.ar 32 17 (fun _=>dg Dg.zero)) :: (1,.ar 32 17 (fun j=>dg (At j))) :: (2,.ar 1 (h + 1) (EH l)) :: (if q=0 then [] else [(3,.ar 32 q (fun j=>dg (Kr (At h) (Bx l h) j)))])) (fun _=>4) (fun q=>(Bx l h).length + 1 - q) 0 Aa ?_ ?_
   ·refine Ao.fr [0,1,2] [] hx AQ Am ?_ ?_
    ·simp only [Bo,seval]
     first | exact ⟨F7 _ _ _ _ _,rfl⟩ | exact F7 _ _ _ _ _
    ·simp only [Bo,seval]
     exact fun _ _=>Bg _ _ _ _ _
   ·intro q hq
    rcases Cx l h with hv | ⟨hv,hL⟩
    ·simp only [hv]
     (refine es 14 ?_;simp (maxSteps:=2000000) only [Cz,↓Ad,ex,Ro,AJ,AX,Ae,seval])
     have hn:(Bx l h).length≤65536:=Nat.le_trans (Aud l h) (Nat.le_trans hl (Nat.pow_le_pow_right (n:=2) Aa hd))
     refine ⟨fun hlt2=>?_,fun hge2=>?_⟩
     ·have hlt2:((2 * q:Nat):Int) < (Bx l h).length:=of_decide_eq_true hlt2
      have w1:IntKind.i64.wrap (((2 * q:Nat):Int) + 1)=((2 * q + 1:Nat):Int):=AZ
      have w2:IntKind.i64.wrap (((2 * q:Nat):Int) + 2)=((2 * (q + 1):Nat):Int):=AZ
      have w3:IntKind.i64.wrap ((h:Int) + 1)=((h + 1:Nat):Int):=AZ
      simp only [w1,Int.toNat_natCast]
      refine Qp (fr 99 [(5,.ptr 0 []),(6,.nili),(7,.ptr 1 []),(8,.sl 2 [] 0 (h + 1) 1),(9,.int .i64 h),(10,if q=0 then .nils else .sl 3 [] 0 q 32),(11,.lst 32 (Bx l h).length (Fk (Bx l h))),(12,.int .i64 (2 * q:Nat)),(13,.ptr 4 []),(34,.int .i64 d),(35,.int .i64 h)])
       ((4,dg ((Bx l h).getD (2 * q + 1) (At h))) :: (0,.ar 32 17 (fun _=>dg Dg.zero)) :: (1,.ar 32 17 (fun j=>dg (At j))) :: (2,.ar 1 (h + 1) (EH l)) :: (if q=0 then [] else [(3,.ar 32 q (fun j=>dg (Kr (At h) (Bx l h) j)))])) 5 ?_
       (fun key=>⟨⟨by omega,by omega⟩,by omega,fun ho=>⟨⟨by omega,of_decide_eq_true ho⟩,Bm.weak _ _ _ ?_ key⟩,fun ho=>Bm.weak _ _ _ ?_ key⟩)
      ·exact Aj9 ok hx hd hlt hn hlt2 (fun A H N hw=>⟨q + 1,by omega,by omega,hw⟩)
      ·have ho:=of_decide_eq_true ho
       refine Ao.fr [0,1,2,3,116] [] hx AQ Am ?_ ?_
       ·simp only [Bo,seval]
        by_cases hq0:q=0
        ·simp only [if_pos hq0,Bo,seval]
        ·simp only [if_neg hq0,Bo,seval]
       ·simp only [Bo,seval]
        refine ⟨E3 Aa _ _,fun _ _=>Bg _ _ _ _ _,?_⟩
        by_cases hq0:q=0
        ·simp only [if_pos hq0,Bo,seval]
        ·simp only [if_neg hq0,Bo,seval]
      ·have ho:=of_decide_eq_false ho
       refine Ao.fr [0,1,2,3,116] [] hx AQ Am ?_ ?_
       ·simp only [Bo,seval]
        by_cases hq0:q=0
        ·simp only [if_pos hq0,Bo,seval]
        ·simp only [if_neg hq0,Bo,seval]
       ·simp only [Bo,seval]
        refine ⟨(Dv Aa _).symm,fun _ _=>Bg _ _ _ _ _,?_⟩
        by_cases hq0:q=0
        ·simp only [if_pos hq0,Bo,seval]
        ·simp only [if_neg hq0,Bo,seval]
     ·have hge2:¬ ((2 * q:Nat):Int) < (Bx l h).length:=of_decide_eq_false hge2
      have hqe:q=((Bx l h).length + 1) / 2:=Aa
      have w3:IntKind.i64.wrap ((h:Int) + 1)=((h + 1:Nat):Int):=AZ
      by_cases hq0:q=0
      ·simp only [if_pos hq0,Cz,↓Ad,ex,Ro,AJ,AX,Ae,seval]
       repeat refine sd ?_
       refine ⟨h + 1,by omega,by omega,?_⟩
       refine Ao.fr [0,1,116] [] hx AQ Am ?_ ?_
       ·simp only [Bo,seval,w3]
       ·simp only [Bo,seval]
        have hup:Bx l (h + 1)=[]:=List.length_eq_zero_iff.mp (by rw [Bx,Hb];omega)
        intro i hi
        by_cases h2:i < h + 1
        ·rw [if_pos h2];exact Bg _ _ _ _ _
        ·have:i=h + 1:=Aa
         subst this
         simp only [EH,hup,if_neg (Nat.add_one_ne_zero h),CL,Nat.lt_irrefl,Az,ite_self]
      ·simp only [if_neg hq0,Cz,↓Ad,ex,Ro,AJ,AX,Ae,seval]
       repeat refine sd ?_
       refine ⟨h + 1,by omega,by omega,?_⟩
       refine Ao.fr [0,1,116] [3] hx AQ Am ?_ ?_
       ·simp only [Bo,seval,w3]
       ·simp only [Bo,seval]
        have hlen:(Bx l (h + 1)).length=q:=by rw [Bx,Hb];omega
        have hup:Bx l (h + 1) ≠ []:=fun h=>by rw [h] at hlen;exact hq0 hlen.symm
        intro i hi
        by_cases h2:i < h + 1
        ·rw [if_pos h2];exact Bg _ _ _ _ _
        ·have:i=h + 1:=Aa
         subst this
         simp only [EH,if_neg hup,if_neg (Nat.add_one_ne_zero h),Nat.lt_irrefl,Bo,Nat.sub_self,row,hlen,seval]
         intro j hj
         rw [Bx,Zu _ _ _ _ Aa]
    ·have hq0:q=0:=by rw [hL] at hq;simpa using hq
     subst hq0
     have dz:decide ((0:Int) < 0)=false:=rfl
     have w3:IntKind.i64.wrap ((h:Int) + 1)=((h + 1:Nat):Int):=AZ
     simp only [hv,if_true]
     (refine es 40 ?_;simp (maxSteps:=2000000) only [dz,Cz,↓Ad,ex,Ro,AJ,AX,Ae,seval])
     repeat refine sd ?_
     refine ⟨h + 1,by omega,by omega,?_⟩
     refine Ao.fr [0,1,116] [] hx AQ Am ?_ ?_
     ·simp only [Bo,seval,w3]
     ·simp only [Bo,seval]
      have hup:Bx l (h + 1)=[]:=List.length_eq_zero_iff.mp (by rw [Bx,Hb,hL];rfl)
      intro i hi
      by_cases h2:i < h + 1
      ·rw [if_pos h2];exact Bg _ _ _ _ _
      ·have:i=h + 1:=Aa
       subst this
       simp only [EH,hup,if_neg (Nat.add_one_ne_zero h),CL,Nat.lt_irrefl,Az,ite_self]
  ·have hge:¬ (h:Int) < d:=RE
   have hhd:h=d:=Aa
   subst hhd
   refine Ar.mk hx [2] [] (AS (.sl 0 [] 0 (h + 1) 1) (.ar 32 17 (fun j=>dg (At j))) .nili) [(0,.ar 1 (h + 1) (EH l))] 1 Am ?_ ?_ ?_ ⟨rfl,rfl,rfl⟩
   ·simp only [Laj,G5,E5,↓Ad,ex,Ro,AJ,AX,Ae,seval]
   ·simp only [La6,FY,AS,LR,↓Ad,ex,Ro,AJ,AX,Ae,seval]
   ·simp only [Bo,seval]
    exact fun _ _=>Bg _ _ _ _ _
def HS (l:List Dg) (h q:Nat):Dg:=(Bx l h).getD q (At h)
theorem Aat (l:List Dg) (q:Nat):HS l 0 q=l.getD q Dg.zero:=rfl
theorem SJ (l:List Dg) (h q:Nat):HS l (h + 1) q=Ch (HS l h (2 * q)) (HS l h (2 * q + 1)):=by
 unfold HS
 by_cases hq:q < ((Bx l h).length + 1) / 2
 ·rw [Bx,Zu _ _ _ _ hq];rfl
 ·rw [Dv (by rw [Bx,Hb];omega),Dv Aa,Dv Aa];rfl
theorem Rh (l:List Dg) (hl:0 < l.length):∀ h,0 < (Bx l h).length
 | 0=>hl
 | h + 1 => by
   have:=Rh l hl h
   rw [Bx,Hb];omega
theorem Ex (m:List Nat) (l:List Dg) (h:Nat):(EH l h).ren m=EH l h:=by
 rcases Cx l h with e | ⟨e,_⟩ <;> rw [e] <;> rfl
theorem Jb (H:Hp) (m z:List Nat) (l:List Dg):Bi H m z (row l) (row l):=by
 simp only [row,Bi,Az,true_and]
 exact fun j _=>(AU _ _ _ _ _).mpr rfl
theorem RC {M:Seat} (ok:OkM M) (d:Nat) (hd:d≤16) (l:List Dg) (hl:l.length≤2 ^ d) :
 Ag M 200 [.int .i64 d,row l] [] 0 (Q3 (Ah (dg (HS l d 0)) .nili) [] 0):=by
 refine Ab ok.k200 rfl fun x hx=>?_
 refine es 30 ?_
 simp only [Ah1,Ag5,Cz,↓Ad,ex,Ro,AJ,AX,Ae,seval]
 refine BE (Ht ok d hd l hl) False [] [] List.nodup_nil B5 rfl B5 ⟨rfl,Jb _ _ _ _,trivial⟩ trivial ?_
 rintro v H' k' ⟨rfl,rfl,rfl⟩
 refine ⟨⟨by omega,fun h=>h.elim⟩,?_⟩
 have hnum:Bh [] 64 1=[64]:=rfl
 simp only [hnum,AS,LN,V.ren,AV,A6,BS,Ex,Z3,List.append_nil,B3,ne_eq,CL,seval]
 by_cases h0:l.length=0
 ·have d0:decide ((l.length:Int)=0)=true:=by rw [h0];rfl
  have hn:HS l d 0=At d:=Dv (by have:=Aud l d;omega) _
  simp (maxSteps:=2000000) only [row,AD,AK,d0,Cz,↓Ad,ex,Ro,AJ,AX,Ae,seval]
  repeat refine sd ?_
  simp only [hn]
  refine Ar.mk hx [] [] (Ah (dg (At d)) .nili) [] 0 Am ?_ ?_ trivial ⟨rfl,rfl,rfl⟩
  ·simp only [SD,↓Ad,ex,Ro,AJ,AX,Ae,seval]
   rfl
  ·simp only [Rs,↓Ad,ex,Ro,AJ,AX,Ae,seval]
 ·have d0:decide ((l.length:Int)=0)=false:=decide_eq_false Aa
  have hpos:=Rh l Aa d
  rcases Cx l d with hv | ⟨hv,hL⟩
  ·simp (maxSteps:=2000000) only [row,AD,AK,d0,DN,EQ,G4,hv,Cz,↓Ad,ex,Ro,AJ,AX,Ae,seval]
   repeat refine sd ?_
   have hn:(Bx l d).getD 0 Dg.zero=HS l d 0:=E3 hpos _ _
   simp only [hn]
   refine Ar.mk hx [] [] (Ah (dg (HS l d 0)) .nili) [] 0 Am ?_ ?_ trivial ⟨rfl,rfl,rfl⟩
   ·simp only [SD,↓Ad,ex,Ro,AJ,AX,Ae,seval]
    rfl
   ·simp only [Rs,↓Ad,ex,Ro,AJ,AX,Ae,seval]
  ·rw [hL] at hpos;simp at hpos
theorem Zq {g:Nat} (h:g < 4611686018427387904):IntKind.i64.wrap ((g:Int).tdiv 2)=((g / 2:Nat):Int):=by
 rw [Int.tdiv_eq_ediv_of_nonneg Aa,AY Aa];omega
theorem QP (i q:Nat):i / 2 ^ (q + 1)=i / 2 ^ q / 2:=by rw [Nat.pow_succ,Nat.div_div_eq_div_mul]
def CJ (l:List Dg) (i h:Nat):Dg:=HS l h ((i / 2 ^ h) ^^^ 1)
theorem Uu {f:Nat→Dg} {q:Nat} {v:Dg} (hu:f q=v) (i:Nat) (hi:i < q + 1):(if i < q then dg (f i) else if i - q=0 then dg v else V.ar 1 32 (fun _=>V.int .u8 0))=dg (f i):=by
 by_cases h:i < q
 ·rw [if_pos h]
 ·have:i=q:=Aa
  subst this
  rw [if_neg h,if_pos Aa,hu]
theorem T2 {f:Nat→Dg} {v:Dg} (hu:f 0=v) (i:Nat) (hi:i < 1):(if i=0 then dg v else V.ar 1 32 (fun _=>V.int .u8 0))=dg (f i):=by
 have:i=0:=Aa
 subst this
 rw [if_pos rfl,hu]
theorem Afa {g:Nat} (h:g < 4611686018427387904):IntKind.i64.wrap (((BitVec.ofInt IntKind.i64.bits (g:Int) ^^^ BitVec.ofInt IntKind.i64.bits 1).toNat:Nat):Int)=((g ^^^ 1:Nat):Int):=by
 show IntKind.i64.wrap (((BitVec.ofInt 64 (g:Int) ^^^ BitVec.ofInt 64 ((1:Nat):Int)).toNat:Nat):Int)=_
 have h2:g ^^^ 1 < 2 ^ 63:=Nat.xor_lt_two_pow Aa Aa
 rw [BN,BN,BitVec.toNat_xor,BitVec.toNat_ofNat,BitVec.toNat_ofNat,Nat.mod_eq_of_lt Aa,Nat.mod_eq_of_lt Aa]
 rw [AY Aa]
theorem Rl {M:Seat} (ok:OkM M) (d:Nat) (hd0:0 < d) (hd:d≤16) (l:List Dg) (hl:l.length≤2 ^ d) (i:Nat) (hi:i < 2 ^ d) :
 Ag M 198 [.int .i64 d,row l,.int .i64 i] [] 0 (Q3 (Ah (.sl 0 [] 0 d 32) .nili) [(0,.ar 32 d (fun h=>dg (CJ l i h)))] 1):=by
 have h16:2 ^ d≤2 ^ 16:=Nat.pow_le_pow_right Aa hd
 refine Ab ok.k198 rfl fun x hx=>?_
 refine es 30 ?_
 simp only [Aei,Ahg,Cz,↓Ad,ex,Ro,AJ,AX,Ae,seval]
 refine BE (Ht ok d hd l hl) False [] [] List.nodup_nil B5 rfl B5 ⟨rfl,Jb _ _ _ _,trivial⟩ trivial ?_
 rintro v H' k' ⟨rfl,rfl,rfl⟩
 refine ⟨⟨by omega,fun h=>h.elim⟩,?_⟩
 have hnum:Bh [] 64 1=[64]:=rfl
 simp only [hnum,AS,LN,V.ren,AV,A6,BS,Ex,Z3,List.append_nil,B3,ne_eq,CL,seval]
 have d1:decide ((i:Int) < 0)=false:=decide_eq_false Aa
 have w0:=Tx hd
 have d3:decide (((2 ^ d:Nat):Int)≤i)=false:=decide_eq_false Aa
 simp (maxSteps:=2000000) only [AD,AK,d1,d3,w0,Cz,↓Ad,ex,Ro,AJ,AX,Ae,seval]
 repeat refine sd ?_
 refine An (σ:=Nat) (fun h=>h≤d) (fun h=>fr 65 [(2,.int .i64 (i / 2 ^ h:Nat)),(8,.sl 1 [] 0 (d + 1) 1),(9,.ptr 0 []),(11,if h=0 then .nils else .sl 2 [] 0 h 32),(34,.int .i64 d),(35,.int .i64 h)])
  (fun h=>(0,.ar 32 17 (fun j=>dg (At j))) :: (1,.ar 1 (d + 1) (EH l)) :: (if h=0 then [] else [(2,.ar 32 h (fun j=>dg (CJ l i j)))])) (fun _=>3) (fun h=>d - h) 0 Aa ?_ ?_
 ·refine Ao.fr [144,64] [] hx AQ Am ?_ ?_
  ·simp only [Bo,seval,Nat.pow_zero,Nat.div_one]
  ·simp only [Bo,seval]
   exact fun _ _=>Bg _ _ _ _ _
 ·intro h hh
  have hle:i / 2 ^ h≤i:=Nat.div_le_self _ _
  have w1:IntKind.i64.wrap (((i / 2 ^ h:Nat):Int).tdiv 2)=((i / 2 ^ (h + 1):Nat):Int):=by rw [Zq Aa,QP]
  have w2:IntKind.i64.wrap ((h:Int) + 1)=((h + 1:Nat):Int):=AZ
  have w4:=Afa (g:=i / 2 ^ h) Aa
  by_cases hhd:h=d
  ·have d0:decide ((h:Int) < d)=false:=decide_eq_false Aa
   have hne:h ≠ 0:=Aa
   simp only [if_neg hne]
   (refine es 18 ?_;simp (maxSteps:=2000000) only [d0,Cz,↓Ad,ex,Ro,AJ,AX,Ae,seval])
   subst hhd
   refine Ar.mk hx [2] [] (Ah (.sl 0 [] 0 h 32) .nili) [(0,.ar 32 h (fun j=>dg (CJ l i j)))] 1 Am ?_ ?_ ?_ ⟨rfl,rfl,rfl⟩
   ·simp only [SD,↓Ad,ex,Ro,AJ,AX,Ae,seval]
   ·simp only [Rs,↓Ad,ex,Ro,AJ,AX,Ae,seval]
   ·simp only [Bo,seval]
  have d0:decide ((h:Int) < d)=true:=decide_eq_true Aa
  rcases Cx l h with hv | ⟨hv,hL⟩
  ·by_cases hk:(i / 2 ^ h) ^^^ 1 < (Bx l h).length
   ·have d5:decide ((((i / 2 ^ h) ^^^ 1:Nat):Int) < (Bx l h).length)=true:=decide_eq_true Aa
    (refine es 18 ?_;simp (maxSteps:=2000000) only [d0,w1,w2,w4,d5,hv,DN,EQ,G4,Cz,↓Ad,ex,Ro,AJ,AX,Ae,seval])
    refine Qp (fr 65 [(2,.int .i64 (i / 2 ^ h:Nat)),(8,.sl 1 [] 0 (d + 1) 1),(9,.ptr 0 []),(11,if h=0 then .nils else .sl 2 [] 0 h 32),(13,.ptr 3 []),(34,.int .i64 d),(35,.int .i64 h)])
     ((3,dg (CJ l i h)) :: (0,.ar 32 17 (fun j=>dg (At j))) :: (1,.ar 1 (d + 1) (EH l)) :: (if h=0 then [] else [(2,.ar 32 h (fun j=>dg (CJ l i j)))])) 4 ?_
     (fun key=>⟨by omega,by omega,by omega,by omega,by omega,by omega,by omega,Bm.weak _ _ _ ?_ key⟩)
    ·by_cases h0:h=0
     ·subst h0
      simp only [if_true]
      (refine es 40 ?_;simp (maxSteps:=2000000) only [w1,w2,Cz,↓Ad,ex,Ro,AJ,AX,Ae,seval])
      repeat refine sd ?_
      refine ⟨0 + 1,by omega,by omega,?_⟩
      refine Ao.fr [0,1,52] [] hx AQ Am ?_ ?_
      ·simp only [if_neg (Nat.add_one_ne_zero 0),Bo,seval]
       rfl
      ·simp only [if_neg (Nat.add_one_ne_zero 0),Bo,seval]
       exact ⟨fun _ _=>Bg _ _ _ _ _,fun j hj=>by rw [T2 (f:=CJ l i) rfl j hj];exact (AU _ _ _ _ _).mpr rfl⟩
     ·simp only [if_neg h0]
      (refine es 40 ?_;simp (maxSteps:=2000000) only [w1,w2,Cz,↓Ad,ex,Ro,AJ,AX,Ae,seval])
      repeat refine sd ?_
      refine ⟨h + 1,by omega,by omega,?_⟩
      refine Ao.fr [0,1,52] [] hx AQ Am ?_ ?_
      ·simp only [if_neg (Nat.add_one_ne_zero h),Bo,seval]
      ·simp only [if_neg (Nat.add_one_ne_zero h),Bo,seval]
       exact ⟨fun _ _=>Bg _ _ _ _ _,fun j hj=>by rw [Uu (f:=CJ l i) rfl j hj];exact (AU _ _ _ _ _).mpr rfl⟩
    ·refine Ao.fr [0,1,2,99] [] hx AQ Am ?_ ?_
     ·simp only [Bo,seval]
      by_cases h0:h=0
      ·simp only [if_pos h0,Bo,seval]
      ·simp only [if_neg h0,Bo,seval]
     ·simp only [Bo,seval]
      refine ⟨E3 hk _ _,fun _ _=>Bg _ _ _ _ _,?_⟩
      by_cases h0:h=0
      ·simp only [if_pos h0,Bo,seval]
      ·simp only [if_neg h0,Bo,seval]
   ·have d5:decide ((((i / 2 ^ h) ^^^ 1:Nat):Int) < (Bx l h).length)=false:=decide_eq_false Aa
    (refine es 18 ?_;simp (maxSteps:=2000000) only [d0,w1,w2,w4,d5,hv,DN,EQ,G4,Cz,↓Ad,ex,Ro,AJ,AX,Ae,seval])
    refine Qp (fr 65 [(2,.int .i64 (i / 2 ^ h:Nat)),(8,.sl 1 [] 0 (d + 1) 1),(9,.ptr 0 []),(11,if h=0 then .nils else .sl 2 [] 0 h 32),(13,.ptr 3 []),(34,.int .i64 d),(35,.int .i64 h)])
     ((3,dg (CJ l i h)) :: (0,.ar 32 17 (fun j=>dg (At j))) :: (1,.ar 1 (d + 1) (EH l)) :: (if h=0 then [] else [(2,.ar 32 h (fun j=>dg (CJ l i j)))])) 4 ?_
     (fun key=>⟨by omega,by omega,by omega,by omega,Bm.weak _ _ _ ?_ key⟩)
    ·by_cases h0:h=0
     ·subst h0
      simp only [if_true]
      (refine es 40 ?_;simp (maxSteps:=2000000) only [w1,w2,Cz,↓Ad,ex,Ro,AJ,AX,Ae,seval])
      repeat refine sd ?_
      refine ⟨0 + 1,by omega,by omega,?_⟩
      refine Ao.fr [0,1,52] [] hx AQ Am ?_ ?_
      ·simp only [if_neg (Nat.add_one_ne_zero 0),Bo,seval]
       rfl
      ·simp only [if_neg (Nat.add_one_ne_zero 0),Bo,seval]
       exact ⟨fun _ _=>Bg _ _ _ _ _,fun j hj=>by rw [T2 (f:=CJ l i) rfl j hj];exact (AU _ _ _ _ _).mpr rfl⟩
     ·simp only [if_neg h0]
      (refine es 40 ?_;simp (maxSteps:=2000000) only [w1,w2,Cz,↓Ad,ex,Ro,AJ,AX,Ae,seval])
      repeat refine sd ?_
      refine ⟨h + 1,by omega,by omega,?_⟩
      refine Ao.fr [0,1,52] [] hx AQ Am ?_ ?_
      ·simp only [if_neg (Nat.add_one_ne_zero h),Bo,seval]
      ·simp only [if_neg (Nat.add_one_ne_zero h),Bo,seval]
       exact ⟨fun _ _=>Bg _ _ _ _ _,fun j hj=>by rw [Uu (f:=CJ l i) rfl j hj];exact (AU _ _ _ _ _).mpr rfl⟩
    ·refine Ao.fr [0,1,2,99] [] hx AQ Am ?_ ?_
     ·simp only [Bo,seval]
      by_cases h0:h=0
      ·simp only [if_pos h0,Bo,seval]
      ·simp only [if_neg h0,Bo,seval]
     ·simp only [Bo,seval]
      refine ⟨(Dv Aa _).symm,fun _ _=>Bg _ _ _ _ _,?_⟩
      by_cases h0:h=0
      ·simp only [if_pos h0,Bo,seval]
      ·simp only [if_neg h0,Bo,seval]
  ·have d5:decide ((((i / 2 ^ h) ^^^ 1:Nat):Int) < 0)=false:=decide_eq_false Aa
   (refine es 18 ?_;simp (maxSteps:=2000000) only [d0,w1,w2,w4,d5,hv,DN,EQ,G4,Cz,↓Ad,ex,Ro,AJ,AX,Ae,seval])
   refine Qp (fr 65 [(2,.int .i64 (i / 2 ^ h:Nat)),(8,.sl 1 [] 0 (d + 1) 1),(9,.ptr 0 []),(11,if h=0 then .nils else .sl 2 [] 0 h 32),(13,.ptr 3 []),(34,.int .i64 d),(35,.int .i64 h)])
    ((3,dg (CJ l i h)) :: (0,.ar 32 17 (fun j=>dg (At j))) :: (1,.ar 1 (d + 1) (EH l)) :: (if h=0 then [] else [(2,.ar 32 h (fun j=>dg (CJ l i j)))])) 4 ?_
    (fun key=>⟨by omega,by omega,by omega,by omega,Bm.weak _ _ _ ?_ key⟩)
   ·by_cases h0:h=0
    ·subst h0
     simp only [if_true]
     (refine es 40 ?_;simp (maxSteps:=2000000) only [w1,w2,Cz,↓Ad,ex,Ro,AJ,AX,Ae,seval])
     repeat refine sd ?_
     refine ⟨0 + 1,by omega,by omega,?_⟩
     refine Ao.fr [0,1,52] [] hx AQ Am ?_ ?_
     ·simp only [if_neg (Nat.add_one_ne_zero 0),Bo,seval]
      rfl
     ·simp only [if_neg (Nat.add_one_ne_zero 0),Bo,seval]
      exact ⟨fun _ _=>Bg _ _ _ _ _,fun j hj=>by rw [T2 (f:=CJ l i) rfl j hj];exact (AU _ _ _ _ _).mpr rfl⟩
    ·simp only [if_neg h0]
     (refine es 40 ?_;simp (maxSteps:=2000000) only [w1,w2,Cz,↓Ad,ex,Ro,AJ,AX,Ae,seval])
     repeat refine sd ?_
     refine ⟨h + 1,by omega,by omega,?_⟩
     refine Ao.fr [0,1,52] [] hx AQ Am ?_ ?_
     ·simp only [if_neg (Nat.add_one_ne_zero h),Bo,seval]
     ·simp only [if_neg (Nat.add_one_ne_zero h),Bo,seval]
      exact ⟨fun _ _=>Bg _ _ _ _ _,fun j hj=>by rw [Uu (f:=CJ l i) rfl j hj];exact (AU _ _ _ _ _).mpr rfl⟩
   ·refine Ao.fr [0,1,2,99] [] hx AQ Am ?_ ?_
    ·simp only [Bo,seval]
     by_cases h0:h=0
     ·simp only [if_pos h0,Bo,seval]
     ·simp only [if_neg h0,Bo,seval]
    ·simp only [Bo,seval]
     refine ⟨by rw [CJ,HS,hL];rfl,fun _ _=>Bg _ _ _ _ _,?_⟩
     by_cases h0:h=0
     ·simp only [if_pos h0,Bo,seval]
     ·simp only [if_neg h0,Bo,seval]
def XZ (v:Int) (i:Nat):Int:=(v / 2 ^ (56 - 8 * i)) % 256
theorem Iw {M:Seat} (hc:Au M 312 Uv=true) (L o n:Nat) (g:Nat→Int) (v:Int) (hv:0≤v) (hn:8≤n) (hL:o + n≤L) :
 Ag M 312 [.sl 0 [] o n 1,.int .u64 v] [(0,.ar 1 L fun j=>.int .u8 (g j))] 1 (Q3 (.tup .fnil) [(0,.ar 1 L (fun j=>.int .u8 (if o≤j∧j < o + 8 then XZ v (j - o) else g j)))] 1):=by
 refine Ab hc rfl fun x hx=>?_
 refine es 30 ?_
 simp only [Uv,Agw,E5,↓Ad,ex,Ro,AJ,AX,Ae,Nat.reduceLT,Int.reduceLE,Int.reduceLT,Nat.reducePow,Nat.reduceAnd,Nat.reduceOr,Nat.reduceShiftRight,Int.reduceToNat,reduceCtorEq,Nat.reduceAdd,Nat.reduceMul,Nat.reduceSub,Nat.reduceBEq,Nat.reduceEqDiff]
 refine An (σ:=Nat) (fun i=>i≤8) (fun i=>fr 18 [(0,.sl 0 [] o n 1),(1,.int .u64 v),(5,.int .i64 i)])
  (fun i=>[(0,.ar 1 L (fun j=>.int .u8 (if o≤j∧j < o + i then XZ v (j - o) else g j)))]) (fun _=>1) (fun i=>8 - i) 0 Aa ?_ ?_
 ·refine Ao.fr [0] [] hx AQ Am ?_ ?_
  ·simp only [Ko,Nat.reduceLT,reduceCtorEq,Nat.reduceEqDiff]
   rfl
  ·simp only [Ko,Nat.reduceLT,reduceCtorEq,Nat.reduceEqDiff]
   intro i hi
   rw [if_neg Aa]
 ·intro i hi
  refine es 30 ?_
  simp only [E5,↓Ad,ex,Ro,AJ,AX,Ae,Nat.reduceLT,Int.reduceLE,Int.reduceLT,Nat.reducePow,Nat.reduceAnd,Nat.reduceOr,Nat.reduceShiftRight,Int.reduceToNat,reduceCtorEq,Nat.reduceAdd,Nat.reduceMul,Nat.reduceSub,Nat.reduceBEq,Nat.reduceEqDiff]
  refine ⟨fun hlt=>?_,fun hge=>?_⟩
  ·have hlt:(i:Int) < 8:=So
   have w1:IntKind.i64.wrap (8 * ↑i)=8 * i:=AY Aa
   have w2:IntKind.i64.wrap (56 - 8 * ↑i)=56 - 8 * i:=AY Aa
   have w3:IntKind.i64.wrap ((i:Int) + 1)=i + 1:=AY Aa
   simp only [w1,w2,w3]
   refine ⟨by omega,⟨by omega,by omega⟩,by omega,i + 1,by omega,by omega,Ao.fr [0] [] hx AQ Am ?_ ?_⟩
   ·simp only [Ko,Nat.reduceLT,reduceCtorEq,Nat.reduceEqDiff]
    omega
   ·simp only [Ko,Nat.reduceLT,reduceCtorEq,Nat.reduceEqDiff]
    intro j hj
    by_cases hji:j=o + i
    ·rw [if_pos hji,if_pos Aa,JX,Int.fdiv_eq_ediv_of_nonneg _ (Int.pow_nonneg Aa),XZ]
     have e1:min (56 - 8 * (i:Int)).toNat IntKind.u64.bits=56 - 8 * (j - o):=by simp only [IntKind.bits];omega
     rw [e1]
    ·rw [if_neg hji]
     by_cases h2:o≤j∧j < o + i
     ·rw [if_pos h2,if_pos Aa]
     ·rw [if_neg h2,if_neg Aa]
  ·have hge:¬ (i:Int) < 8:=RE
   have hi8:i=8:=Aa
   subst hi8
   refine Ar.mk hx [0] [] (.tup .fnil) _ 1 Am ?_ ?_ ?_ ⟨rfl,rfl,rfl⟩
   ·simp [Dz,F3,G5]
   ·simp [Dz,FY,Bi,Az]
   ·simp only [Ko,Nat.reduceLT,reduceCtorEq,Nat.reduceEqDiff]
    intro i hi
    trivial
end Mv
