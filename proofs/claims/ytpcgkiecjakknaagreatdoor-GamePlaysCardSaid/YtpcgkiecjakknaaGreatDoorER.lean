/- A part. -/
import Derived.Test.YtpcgkiecjakknaaGreatDoorEQ
set_option linter.all false
set_option maxRecDepth 20000
set_option maxHeartbeats 4000000
namespace Mv
open Go
variable {M:Seat}
def HS (l:List Dg) (h q:Nat):Dg:=(Bx l h).getD q (At h)
theorem Aat (l:List Dg) (q:Nat):HS l 0 q=l.getD q Dg.zero:=rfl
theorem SJ (l:List Dg) (h q:Nat):HS l (h + 1) q=Ch (HS l h (2 * q)) (HS l h (2 * q + 1)):=by
 unfold HS
 by_cases hq:q < ((Bx l h).length + 1) / 2
 ·rw [Bx,Zu _ _ _ _ hq];rfl
 ·rw [Dv (by rw [Bx,Hb];omega),Dv Aa,Dv Aa];rfl
theorem Rh (l:List Dg) (hl:0 < l.length):∀ h,0 < (Bx l h).length
 | 0=>hl
 | h + 1 => by
   have:=Rh l hl h
   rw [Bx,Hb];omega
theorem Ex (m:List Nat) (l:List Dg) (h:Nat):(EH l h).ren m=EH l h:=by
 rcases Cx l h with e | ⟨e,_⟩ <;> rw [e] <;> rfl
theorem Jb (H:Hp) (m z:List Nat) (l:List Dg):Bi H m z (row l) (row l):=by
 simp only [row,Bi,Az,true_and]
 exact fun j _=>(AU _ _ _ _ _).mpr rfl
theorem RC (ok:OkM M) (d:Nat) (hd:d≤16) (l:List Dg) (hl:l.length≤2 ^ d) :
 Ag M 200 [.int .i64 d,row l] [] 0 (Q3 (Ah (dg (HS l d 0)) .nili) [] 0):=by
 refine Ab ok.k200 rfl fun x hx=>?_
 refine es 30 ?_
 simp only [Ah1,Ag5,Cz,↓Ad,ex,Ro,AJ,AX,Ae,seval]
 refine BE (Ht ok d hd l hl) False [] [] List.nodup_nil B5 rfl B5 ⟨rfl,Jb _ _ _ _,trivial⟩ trivial ?_
 rintro v H' k' ⟨rfl,rfl,rfl⟩
 refine ⟨⟨by omega,fun h=>h.elim⟩,?_⟩
 have hnum:Bh [] 64 1=[64]:=rfl
 simp only [hnum,AS,LN,V.ren,AV,A6,BS,Ex,Z3,List.append_nil,B3,ne_eq,CL,seval]
 by_cases h0:l.length=0
 ·have d0:decide ((l.length:Int)=0)=true:=by rw [h0];rfl
  have hn:HS l d 0=At d:=Dv (by have:=L0 l d;omega) _
  simp (maxSteps:=2000000) only [row,AD,AK,d0,Cz,↓Ad,ex,Ro,AJ,AX,Ae,seval]
  repeat refine sd ?_
  simp only [hn]
  refine Ar.mk hx [] [] (Ah (dg (At d)) .nili) [] 0 Am ?_ ?_ trivial ⟨rfl,rfl,rfl⟩
  ·simp only [SD,↓Ad,ex,Ro,AJ,AX,Ae,seval]
   rfl
  ·simp only [Rs,↓Ad,ex,Ro,AJ,AX,Ae,seval]
 ·have d0:decide ((l.length:Int)=0)=false:=decide_eq_false Aa
  have hpos:=Rh l Aa d
  rcases Cx l d with hv | ⟨hv,hL⟩
  ·simp (maxSteps:=2000000) only [row,AD,AK,d0,DN,EQ,G4,hv,Cz,↓Ad,ex,Ro,AJ,AX,Ae,seval]
   repeat refine sd ?_
   have hn:(Bx l d).getD 0 Dg.zero=HS l d 0:=E3 hpos _ _
   simp only [hn]
   refine Ar.mk hx [] [] (Ah (dg (HS l d 0)) .nili) [] 0 Am ?_ ?_ trivial ⟨rfl,rfl,rfl⟩
   ·simp only [SD,↓Ad,ex,Ro,AJ,AX,Ae,seval]
    rfl
   ·simp only [Rs,↓Ad,ex,Ro,AJ,AX,Ae,seval]
  ·rw [hL] at hpos;simp at hpos
theorem Zq {g:Nat} (h:g < 4611686018427387904):IntKind.i64.wrap ((g:Int).tdiv 2)=((g / 2:Nat):Int):=by
 rw [Int.tdiv_eq_ediv_of_nonneg Aa,AY Aa];omega
theorem Zo (g:Nat):decide ((g:Int).tmod 2=0)=decide (g % 2=0):=by
 rw [decide_eq_decide,Int.tmod_eq_emod_of_nonneg Aa];omega
theorem QP (i q:Nat):i / 2 ^ (q + 1)=i / 2 ^ q / 2:=by rw [Nat.pow_succ,Nat.div_div_eq_div_mul]
def C1 (i:Nat) (x:Dg) (p:List Dg):Nat→Dg
 | 0=>x
 | q + 1=>if (i / 2 ^ q) % 2=0 then Ch (C1 i x p q) (p.getD q Dg.zero) else Ch (p.getD q Dg.zero) (C1 i x p q)
theorem KE (ok:OkM M) (i:Nat) (v:Dg) (p:List Dg) (hp:p.length≤16) (hi:i < 2 ^ p.length) :
 Ag M 201 [.int .i64 i,dg v,row p] [] 0 (Q3 (Ah (dg (C1 i v p p.length)) .nili) [] 0):=by
 have h16:2 ^ p.length≤2 ^ 16:=Nat.pow_le_pow_right Aa hp
 refine Ab ok.k201 rfl fun x hx=>?_
 refine es 30 ?_
 have d1:decide ((16:Int) < p.length)=false:=decide_eq_false Aa
 have d2:decide ((i:Int) < 0)=false:=decide_eq_false Aa
 have w0:=Tx hp
 have d3:decide (((2 ^ p.length:Nat):Int)≤i)=false:=decide_eq_false Aa
 simp (maxSteps:=2000000) only [Aev,Aio,row,d1,d2,d3,w0,Cz,↓Ad,ex,Ro,AJ,AX,Ae,seval]
 repeat refine sd ?_
 refine An (σ:=Nat) (fun q=>q≤p.length) (fun q=>fr 45 [(0,.int .i64 (i / 2 ^ q:Nat)),(4,.ptr 0 []),(6,.ptr 1 []),(7,.nili),(26,.lst 32 p.length (Fk p)),(27,.int .i64 p.length),(28,.int .i64 q)])
  (fun q=>[(0,dg (C1 i v p q)),(1,dg Dg.zero)]) (fun _=>2) (fun q=>p.length - q) 0 Aa ?_ ?_
 ·refine Ao.fr [0,16] [] hx AQ Am ?_ ?_
  ·simp only [Bo,seval,Nat.pow_zero,Nat.div_one]
  ·simp only [Bo,seval,Ws]
   rfl
 ·intro q hq
  have hle:i / 2 ^ q≤i:=Nat.div_le_self _ _
  have w1:IntKind.i64.wrap (((i / 2 ^ q:Nat):Int).tdiv 2)=((i / 2 ^ (q + 1):Nat):Int):=by rw [Zq Aa,QP]
  have w2:IntKind.i64.wrap ((q:Int) + 1)=((q + 1:Nat):Int):=AZ
  by_cases he:(i / 2 ^ q) % 2=0
  ·have d4:decide (((i / 2 ^ q:Nat):Int).tmod 2=0)=true:=by rw [Zo];exact decide_eq_true he
   (refine es 40 ?_;simp (maxSteps:=2000000) only [d4,w1,w2,Cz,↓Ad,ex,Ro,AJ,AX,Ae,seval])
   refine ⟨fun hlt=>?_,fun hge=>?_⟩
   ·have hlt:=of_decide_eq_true hlt
    repeat refine sd ?_
    refine AE (Bl ok _ _) ⟨(AU _ _ _ _ _).mpr rfl,(AU _ _ _ _ _).mpr rfl,trivial⟩ rfl ?_
    simp only [Cz,↓Ad,ex,Ro,AJ,AX,Ae,seval]
    repeat refine sd ?_
    refine ⟨q + 1,by omega,by omega,?_⟩
    refine Ao.fr [0,1] [] hx AQ Am ?_ ?_
    ·simp only [Bo,seval]
    ·simp only [Bo,seval,C1,if_pos he]
   ·have hge:=of_decide_eq_false hge
    have hqe:q=p.length:=Aa
    subst hqe
    refine Ar.mk hx [] [] (Ah (dg (C1 i v p p.length)) .nili) [] 0 Am ?_ ?_ trivial ⟨rfl,rfl,rfl⟩
    ·simp only [SD,↓Ad,ex,Ro,AJ,AX,Ae,seval]
     rfl
    ·simp only [Rs,↓Ad,ex,Ro,AJ,AX,Ae,seval]
  ·have d4:decide (((i / 2 ^ q:Nat):Int).tmod 2=0)=false:=by rw [Zo];exact decide_eq_false he
   (refine es 40 ?_;simp (maxSteps:=2000000) only [d4,w1,w2,Cz,↓Ad,ex,Ro,AJ,AX,Ae,seval])
   refine ⟨fun hlt=>?_,fun hge=>?_⟩
   ·have hlt:=of_decide_eq_true hlt
    repeat refine sd ?_
    refine AE (Bl ok _ _) ⟨(AU _ _ _ _ _).mpr rfl,(AU _ _ _ _ _).mpr rfl,trivial⟩ rfl ?_
    simp only [Cz,↓Ad,ex,Ro,AJ,AX,Ae,seval]
    repeat refine sd ?_
    refine ⟨q + 1,by omega,by omega,?_⟩
    refine Ao.fr [0,1] [] hx AQ Am ?_ ?_
    ·simp only [Bo,seval]
    ·simp only [Bo,seval,C1,if_neg he]
   ·have hge:=of_decide_eq_false hge
    have hqe:q=p.length:=Aa
    subst hqe
    refine Ar.mk hx [] [] (Ah (dg (C1 i v p p.length)) .nili) [] 0 Am ?_ ?_ trivial ⟨rfl,rfl,rfl⟩
    ·simp only [SD,↓Ad,ex,Ro,AJ,AX,Ae,seval]
     rfl
    ·simp only [Rs,↓Ad,ex,Ro,AJ,AX,Ae,seval]
def CJ (l:List Dg) (i h:Nat):Dg:=HS l h ((i / 2 ^ h) ^^^ 1)
theorem Uu {f:Nat→Dg} {q:Nat} {v:Dg} (hu:f q=v) (i:Nat) (hi:i < q + 1):(if i < q then dg (f i) else if i - q=0 then dg v else V.ar 1 32 (fun _=>V.int .u8 0))=dg (f i):=by
 by_cases h:i < q
 ·rw [if_pos h]
 ·have:i=q:=Aa
  subst this
  rw [if_neg h,if_pos Aa,hu]
theorem T2 {f:Nat→Dg} {v:Dg} (hu:f 0=v) (i:Nat) (hi:i < 1):(if i=0 then dg v else V.ar 1 32 (fun _=>V.int .u8 0))=dg (f i):=by
 have:i=0:=Aa
 subst this
 rw [if_pos rfl,hu]
theorem Afa {g:Nat} (h:g < 4611686018427387904):IntKind.i64.wrap (((BitVec.ofInt IntKind.i64.bits (g:Int) ^^^ BitVec.ofInt IntKind.i64.bits 1).toNat:Nat):Int)=((g ^^^ 1:Nat):Int):=by
 show IntKind.i64.wrap (((BitVec.ofInt 64 (g:Int) ^^^ BitVec.ofInt 64 ((1:Nat):Int)).toNat:Nat):Int)=_
 have h2:g ^^^ 1 < 2 ^ 63:=Nat.xor_lt_two_pow Aa Aa
 rw [BN,BN,BitVec.toNat_xor,BitVec.toNat_ofNat,BitVec.toNat_ofNat,Nat.mod_eq_of_lt Aa,Nat.mod_eq_of_lt Aa]
 rw [AY Aa]
theorem Rl (ok:OkM M) (d:Nat) (hd0:0 < d) (hd:d≤16) (l:List Dg) (hl:l.length≤2 ^ d) (i:Nat) (hi:i < 2 ^ d) :
 Ag M 198 [.int .i64 d,row l,.int .i64 i] [] 0 (Q3 (Ah (.sl 0 [] 0 d 32) .nili) [(0,.ar 32 d (fun h=>dg (CJ l i h)))] 1):=by
 have h16:2 ^ d≤2 ^ 16:=Nat.pow_le_pow_right Aa hd
 refine Ab ok.k198 rfl fun x hx=>?_
 refine es 30 ?_
 simp only [Aei,Ahg,Cz,↓Ad,ex,Ro,AJ,AX,Ae,seval]
 refine BE (Ht ok d hd l hl) False [] [] List.nodup_nil B5 rfl B5 ⟨rfl,Jb _ _ _ _,trivial⟩ trivial ?_
 rintro v H' k' ⟨rfl,rfl,rfl⟩
 refine ⟨⟨by omega,fun h=>h.elim⟩,?_⟩
 have hnum:Bh [] 64 1=[64]:=rfl
 simp only [hnum,AS,LN,V.ren,AV,A6,BS,Ex,Z3,List.append_nil,B3,ne_eq,CL,seval]
 have d1:decide ((i:Int) < 0)=false:=decide_eq_false Aa
 have w0:=Tx hd
 have d3:decide (((2 ^ d:Nat):Int)≤i)=false:=decide_eq_false Aa
 simp (maxSteps:=2000000) only [AD,AK,d1,d3,w0,Cz,↓Ad,ex,Ro,AJ,AX,Ae,seval]
 repeat refine sd ?_
 refine An (σ:=Nat) (fun h=>h≤d) (fun h=>fr 65 [(2,.int .i64 (i / 2 ^ h:Nat)),(8,.sl 1 [] 0 (d + 1) 1),(9,.ptr 0 []),(11,if h=0 then .nils else .sl 2 [] 0 h 32),(34,.int .i64 d),(35,.int .i64 h)])
  (fun h=>(0,.ar 32 17 (fun j=>dg (At j))) :: (1,.ar 1 (d + 1) (EH l)) :: (if h=0 then [] else [(2,.ar 32 h (fun j=>dg (CJ l i j)))])) (fun _=>3) (fun h=>d - h) 0 Aa ?_ ?_
 ·refine Ao.fr [144,64] [] hx AQ Am ?_ ?_
  ·simp only [Bo,seval,Nat.pow_zero,Nat.div_one]
  ·simp only [Bo,seval]
   exact fun _ _=>Bg _ _ _ _ _
 ·intro h hh
  have hle:i / 2 ^ h≤i:=Nat.div_le_self _ _
  have w1:IntKind.i64.wrap (((i / 2 ^ h:Nat):Int).tdiv 2)=((i / 2 ^ (h + 1):Nat):Int):=by rw [Zq Aa,QP]
  have w2:IntKind.i64.wrap ((h:Int) + 1)=((h + 1:Nat):Int):=AZ
  have w4:=Afa (g:=i / 2 ^ h) Aa
  by_cases hhd:h=d
  ·have d0:decide ((h:Int) < d)=false:=decide_eq_false Aa
   have hne:h ≠ 0:=Aa
   simp only [if_neg hne]
   (refine es 18 ?_;simp (maxSteps:=2000000) only [d0,Cz,↓Ad,ex,Ro,AJ,AX,Ae,seval])
   subst hhd
   refine Ar.mk hx [2] [] (Ah (.sl 0 [] 0 h 32) .nili) [(0,.ar 32 h (fun j=>dg (CJ l i j)))] 1 Am ?_ ?_ ?_ ⟨rfl,rfl,rfl⟩
   ·simp only [SD,↓Ad,ex,Ro,AJ,AX,Ae,seval]
   ·simp only [Rs,↓Ad,ex,Ro,AJ,AX,Ae,seval]
   ·simp only [Bo,seval]
  have d0:decide ((h:Int) < d)=true:=decide_eq_true Aa
  rcases Cx l h with hv | ⟨hv,hL⟩
  ·by_cases hk:(i / 2 ^ h) ^^^ 1 < (Bx l h).length
   ·have d5:decide ((((i / 2 ^ h) ^^^ 1:Nat):Int) < (Bx l h).length)=true:=decide_eq_true Aa
    (refine es 18 ?_;simp (maxSteps:=2000000) only [d0,w1,w2,w4,d5,hv,DN,EQ,G4,Cz,↓Ad,ex,Ro,AJ,AX,Ae,seval])
    refine Qp (fr 65 [(2,.int .i64 (i / 2 ^ h:Nat)),(8,.sl 1 [] 0 (d + 1) 1),(9,.ptr 0 []),(11,if h=0 then .nils else .sl 2 [] 0 h 32),(13,.ptr 3 []),(34,.int .i64 d),(35,.int .i64 h)])
     ((3,dg (CJ l i h)) :: (0,.ar 32 17 (fun j=>dg (At j))) :: (1,.ar 1 (d + 1) (EH l)) :: (if h=0 then [] else [(2,.ar 32 h (fun j=>dg (CJ l i j)))])) 4 ?_
     (fun key=>⟨by omega,by omega,by omega,by omega,by omega,by omega,by omega,Bm.weak _ _ _ ?_ key⟩)
    ·by_cases h0:h=0
     ·subst h0
      simp only [if_true]
      (refine es 40 ?_;simp (maxSteps:=2000000) only [w1,w2,Cz,↓Ad,ex,Ro,AJ,AX,Ae,seval])
      repeat refine sd ?_
      refine ⟨0 + 1,by omega,by omega,?_⟩
      refine Ao.fr [0,1,52] [] hx AQ Am ?_ ?_
      ·simp only [if_neg (Nat.add_one_ne_zero 0),Bo,seval]
       rfl
      ·simp only [if_neg (Nat.add_one_ne_zero 0),Bo,seval]
       exact ⟨fun _ _=>Bg _ _ _ _ _,fun j hj=>by rw [T2 (f:=CJ l i) rfl j hj];exact (AU _ _ _ _ _).mpr rfl⟩
     ·simp only [if_neg h0]
      (refine es 40 ?_;simp (maxSteps:=2000000) only [w1,w2,Cz,↓Ad,ex,Ro,AJ,AX,Ae,seval])
      repeat refine sd ?_
      refine ⟨h + 1,by omega,by omega,?_⟩
      refine Ao.fr [0,1,52] [] hx AQ Am ?_ ?_
      ·simp only [if_neg (Nat.add_one_ne_zero h),Bo,seval]
      ·simp only [if_neg (Nat.add_one_ne_zero h),Bo,seval]
       exact ⟨fun _ _=>Bg _ _ _ _ _,fun j hj=>by rw [Uu (f:=CJ l i) rfl j hj];exact (AU _ _ _ _ _).mpr rfl⟩
    ·refine Ao.fr [0,1,2,99] [] hx AQ Am ?_ ?_
     ·simp only [Bo,seval]
      by_cases h0:h=0
      ·simp only [if_pos h0,Bo,seval]
      ·simp only [if_neg h0,Bo,seval]
     ·simp only [Bo,seval]
      refine ⟨E3 hk _ _,fun _ _=>Bg _ _ _ _ _,?_⟩
      by_cases h0:h=0
      ·simp only [if_pos h0,Bo,seval]
      ·simp only [if_neg h0,Bo,seval]
   ·have d5:decide ((((i / 2 ^ h) ^^^ 1:Nat):Int) < (Bx l h).length)=false:=decide_eq_false Aa
    (refine es 18 ?_;simp (maxSteps:=2000000) only [d0,w1,w2,w4,d5,hv,DN,EQ,G4,Cz,↓Ad,ex,Ro,AJ,AX,Ae,seval])
    refine Qp (fr 65 [(2,.int .i64 (i / 2 ^ h:Nat)),(8,.sl 1 [] 0 (d + 1) 1),(9,.ptr 0 []),(11,if h=0 then .nils else .sl 2 [] 0 h 32),(13,.ptr 3 []),(34,.int .i64 d),(35,.int .i64 h)])
     ((3,dg (CJ l i h)) :: (0,.ar 32 17 (fun j=>dg (At j))) :: (1,.ar 1 (d + 1) (EH l)) :: (if h=0 then [] else [(2,.ar 32 h (fun j=>dg (CJ l i j)))])) 4 ?_
     (fun key=>⟨by omega,by omega,by omega,by omega,Bm.weak _ _ _ ?_ key⟩)
    ·by_cases h0:h=0
     ·subst h0
      simp only [if_true]
      (refine es 40 ?_;simp (maxSteps:=2000000) only [w1,w2,Cz,↓Ad,ex,Ro,AJ,AX,Ae,seval])
      repeat refine sd ?_
      refine ⟨0 + 1,by omega,by omega,?_⟩
      refine Ao.fr [0,1,52] [] hx AQ Am ?_ ?_
      ·simp only [if_neg (Nat.add_one_ne_zero 0),Bo,seval]
       rfl
      ·simp only [if_neg (Nat.add_one_ne_zero 0),Bo,seval]
       exact ⟨fun _ _=>Bg _ _ _ _ _,fun j hj=>by rw [T2 (f:=CJ l i) rfl j hj];exact (AU _ _ _ _ _).mpr rfl⟩
     ·simp only [if_neg h0]
      (refine es 40 ?_;simp (maxSteps:=2000000) only [w1,w2,Cz,↓Ad,ex,Ro,AJ,AX,Ae,seval])
      repeat refine sd ?_
      refine ⟨h + 1,by omega,by omega,?_⟩
      refine Ao.fr [0,1,52] [] hx AQ Am ?_ ?_
      ·simp only [if_neg (Nat.add_one_ne_zero h),Bo,seval]
      ·simp only [if_neg (Nat.add_one_ne_zero h),Bo,seval]
       exact ⟨fun _ _=>Bg _ _ _ _ _,fun j hj=>by rw [Uu (f:=CJ l i) rfl j hj];exact (AU _ _ _ _ _).mpr rfl⟩
    ·refine Ao.fr [0,1,2,99] [] hx AQ Am ?_ ?_
     ·simp only [Bo,seval]
      by_cases h0:h=0
      ·simp only [if_pos h0,Bo,seval]
      ·simp only [if_neg h0,Bo,seval]
     ·simp only [Bo,seval]
      refine ⟨(Dv Aa _).symm,fun _ _=>Bg _ _ _ _ _,?_⟩
      by_cases h0:h=0
      ·simp only [if_pos h0,Bo,seval]
      ·simp only [if_neg h0,Bo,seval]
  ·have d5:decide ((((i / 2 ^ h) ^^^ 1:Nat):Int) < 0)=false:=decide_eq_false Aa
   (refine es 18 ?_;simp (maxSteps:=2000000) only [d0,w1,w2,w4,d5,hv,DN,EQ,G4,Cz,↓Ad,ex,Ro,AJ,AX,Ae,seval])
   refine Qp (fr 65 [(2,.int .i64 (i / 2 ^ h:Nat)),(8,.sl 1 [] 0 (d + 1) 1),(9,.ptr 0 []),(11,if h=0 then .nils else .sl 2 [] 0 h 32),(13,.ptr 3 []),(34,.int .i64 d),(35,.int .i64 h)])
    ((3,dg (CJ l i h)) :: (0,.ar 32 17 (fun j=>dg (At j))) :: (1,.ar 1 (d + 1) (EH l)) :: (if h=0 then [] else [(2,.ar 32 h (fun j=>dg (CJ l i j)))])) 4 ?_
    (fun key=>⟨by omega,by omega,by omega,by omega,Bm.weak _ _ _ ?_ key⟩)
   ·by_cases h0:h=0
    ·subst h0
     simp only [if_true]
     (refine es 40 ?_;simp (maxSteps:=2000000) only [w1,w2,Cz,↓Ad,ex,Ro,AJ,AX,Ae,seval])
     repeat refine sd ?_
     refine ⟨0 + 1,by omega,by omega,?_⟩
     refine Ao.fr [0,1,52] [] hx AQ Am ?_ ?_
     ·simp only [if_neg (Nat.add_one_ne_zero 0),Bo,seval]
      rfl
     ·simp only [if_neg (Nat.add_one_ne_zero 0),Bo,seval]
      exact ⟨fun _ _=>Bg _ _ _ _ _,fun j hj=>by rw [T2 (f:=CJ l i) rfl j hj];exact (AU _ _ _ _ _).mpr rfl⟩
    ·simp only [if_neg h0]
     (refine es 40 ?_;simp (maxSteps:=2000000) only [w1,w2,Cz,↓Ad,ex,Ro,AJ,AX,Ae,seval])
     repeat refine sd ?_
     refine ⟨h + 1,by omega,by omega,?_⟩
     refine Ao.fr [0,1,52] [] hx AQ Am ?_ ?_
     ·simp only [if_neg (Nat.add_one_ne_zero h),Bo,seval]
     ·simp only [if_neg (Nat.add_one_ne_zero h),Bo,seval]
      exact ⟨fun _ _=>Bg _ _ _ _ _,fun j hj=>by rw [Uu (f:=CJ l i) rfl j hj];exact (AU _ _ _ _ _).mpr rfl⟩
   ·refine Ao.fr [0,1,2,99] [] hx AQ Am ?_ ?_
    ·simp only [Bo,seval]
     by_cases h0:h=0
     ·simp only [if_pos h0,Bo,seval]
     ·simp only [if_neg h0,Bo,seval]
    ·simp only [Bo,seval]
     refine ⟨by rw [CJ,HS,hL];rfl,fun _ _=>Bg _ _ _ _ _,?_⟩
     by_cases h0:h=0
     ·simp only [if_pos h0,Bo,seval]
     ·simp only [if_neg h0,Bo,seval]
def XZ (v:Int) (i:Nat):Int:=(v / 2 ^ (56 - 8 * i)) % 256
theorem Iw {M:Seat} (hc:Au M 312 Uv=true) (L o n:Nat) (g:Nat→Int) (v:Int) (hv:0≤v) (hn:8≤n) (hL:o + n≤L) :
 Ag M 312 [.sl 0 [] o n 1,.int .u64 v] [(0,.ar 1 L fun j=>.int .u8 (g j))] 1 (Q3 (.tup .fnil) [(0,.ar 1 L (fun j=>.int .u8 (if o≤j∧j < o + 8 then XZ v (j - o) else g j)))] 1):=by
 refine Ab hc rfl fun x hx=>?_
 refine es 30 ?_
 simp only [Uv,Agw,E5,↓Ad,ex,Ro,AJ,AX,Ae,Nat.reduceLT,Int.reduceLE,Int.reduceLT,Nat.reducePow,Nat.reduceAnd,Nat.reduceOr,Nat.reduceShiftRight,Int.reduceToNat,reduceCtorEq,Nat.reduceAdd,Nat.reduceMul,Nat.reduceSub,Nat.reduceBEq,Nat.reduceEqDiff]
 refine An (σ:=Nat) (fun i=>i≤8) (fun i=>fr 18 [(0,.sl 0 [] o n 1),(1,.int .u64 v),(5,.int .i64 i)])
  (fun i=>[(0,.ar 1 L (fun j=>.int .u8 (if o≤j∧j < o + i then XZ v (j - o) else g j)))]) (fun _=>1) (fun i=>8 - i) 0 Aa ?_ ?_
 ·refine Ao.fr [0] [] hx AQ Am ?_ ?_
  ·simp only [Ko,Nat.reduceLT,reduceCtorEq,Nat.reduceEqDiff]
   rfl
  ·simp only [Ko,Nat.reduceLT,reduceCtorEq,Nat.reduceEqDiff]
   intro i hi
   rw [if_neg Aa]
 ·intro i hi
  refine es 30 ?_
  simp only [E5,↓Ad,ex,Ro,AJ,AX,Ae,Nat.reduceLT,Int.reduceLE,Int.reduceLT,Nat.reducePow,Nat.reduceAnd,Nat.reduceOr,Nat.reduceShiftRight,Int.reduceToNat,reduceCtorEq,Nat.reduceAdd,Nat.reduceMul,Nat.reduceSub,Nat.reduceBEq,Nat.reduceEqDiff]
  refine ⟨fun hlt=>?_,fun hge=>?_⟩
  ·have hlt:(i:Int) < 8:=So
   have w1:IntKind.i64.wrap (8 * ↑i)=8 * i:=AY Aa
   have w2:IntKind.i64.wrap (56 - 8 * ↑i)=56 - 8 * i:=AY Aa
   have w3:IntKind.i64.wrap ((i:Int) + 1)=i + 1:=AY Aa
   simp only [w1,w2,w3]
   refine ⟨by omega,⟨by omega,by omega⟩,by omega,i + 1,by omega,by omega,Ao.fr [0] [] hx AQ Am ?_ ?_⟩
   ·simp only [Ko,Nat.reduceLT,reduceCtorEq,Nat.reduceEqDiff]
    omega
   ·simp only [Ko,Nat.reduceLT,reduceCtorEq,Nat.reduceEqDiff]
    intro j hj
    by_cases hji:j=o + i
    ·rw [if_pos hji,if_pos Aa,JX,Int.fdiv_eq_ediv_of_nonneg _ (Int.pow_nonneg Aa),XZ]
     have e1:min (56 - 8 * (i:Int)).toNat IntKind.u64.bits=56 - 8 * (j - o):=by simp only [IntKind.bits];omega
     rw [e1]
    ·rw [if_neg hji]
     by_cases h2:o≤j∧j < o + i
     ·rw [if_pos h2,if_pos Aa]
     ·rw [if_neg h2,if_neg Aa]
  ·have hge:¬ (i:Int) < 8:=RE
   have hi8:i=8:=Aa
   subst hi8
   refine Ar.mk hx [0] [] (.tup .fnil) _ 1 Am ?_ ?_ ?_ ⟨rfl,rfl,rfl⟩
   ·simp [Dz,F3,G5]
   ·simp [Dz,FY,Bi,Az]
   ·simp only [Ko,Nat.reduceLT,reduceCtorEq,Nat.reduceEqDiff]
    intro i hi
    trivial
variable {M:Seat}
def BC (v:BitVec 64):Dg:=Dg.mk' fun j=>if j < 24 then 0 else (v >>> (56 - 8 * (j - 24))).setWidth 8
theorem Tl (v:BitVec 64) (i:Nat):V.int .u8 (XZ (v.toNat:Int) i)=B ((v >>> (56 - 8 * i)).setWidth 8):=by
 simp only [B,XZ,BitVec.toNat_setWidth,Lb4]
 congr 1
theorem Yl:BC 0=Dg.zero:=by
 apply Dg.ext'
 intro j hj
 rw [BC,Dg.at_mk' _ _ hj,Dg.at_zero]
 split
 ·rfl
 ·simp
theorem Va (v:BitVec 64):V.ar 1 32 (fun i=>V.int .u8 (if 24≤i∧i < 24 + 8 then XZ (v.toNat:Int) (i - 24) else 0))=dg (BC v):=by
 have h:(fun i=>V.int .u8 (if 24≤i∧i < 24 + 8 then XZ (v.toNat:Int) (i - 24) else 0))=fun j=>B ((BC v).at j):=by
  funext j
  by_cases hj:j < 32
  ·rw [BC,Dg.at_mk' _ _ hj]
   by_cases h2:j < 24
   ·rw [if_pos h2,if_neg Aa];rfl
   ·rw [if_neg h2,if_pos Aa,Tl]
  ·rw [if_neg Aa]
   simp only [Dg.at,List.getD]
   rw [List.getElem?_eq_none (by rw [(BC v).h];omega)];rfl
 simp only [dg,h]
theorem GP (ok:OkM M) (v:BitVec 64) :
 Ag M 202 [W v] [] 0 (Q3 (dg (BC v)) [] 0):=by
 refine Ab ok.k202 rfl fun x hx=>?_
 refine es 30 ?_
 simp only [Agq,Aek,Cz,↓Ad,ex,Ro,AJ,AX,Ae,seval]
 refine BE (Iw ok.k312 32 24 8 (fun _=>0) (v.toNat:Int) Aa Aa Aa) False [16] [] B5 B5 rfl (by simp [Af]) (by simp only [Bo,seval,W]) (by simp only [Bo,seval]) ?_
 rintro r H' k' ⟨rfl,rfl,rfl⟩
 refine ⟨⟨by omega,fun h=>h.elim⟩,?_⟩
 have hnum:Bh [16] 64 1=[16]:=rfl
 simp only [hnum,LN,V.ren,AV,A6,BS,Ex,Z3,List.append_nil,B3,ne_eq,CL,seval]
 simp only [Va,Cz,↓Ad,ex,Ro,AJ,AX,Ae,seval]
 refine Ar.mk hx [] [] (dg (BC v)) [] 0 Am ?_ ?_ trivial ⟨rfl,rfl,rfl⟩
 ·simp only [SD,↓Ad,ex,Ro,AJ,AX,Ae,seval]
 ·simp only [Rs,↓Ad,ex,Ro,AJ,AX,Ae,seval]
def A3 (f g:Nat→BitVec 64) (pc:BitVec 64) (hl:Bool) (ex:BitVec 64):V :=
 .st 8211 (.fcons 0 (.ar 1 8192 (fun j=>W (f j))) (.fcons 8192 (.ar 1 16 (fun j=>W (g j))) (.fcons 8208 (W pc) (.fcons 8209 (.bool hl) (.fcons 8210 (W ex) .fnil)))))
def Rf:LC:=(sr [mt 20 3,A1 21 (.mksl 32 32 (.ar 32 (.int .u8)) (.t 20) (.t 20)),mt 4 21] (.seq (sr [mt 22 4,
  lN 23 0 22,
  mI 24 0] (.block 2 (.loop (sr [ak 25 .lss 24 23] (.seq (Dd 25 2) (.seq (.block 3 (sr [mt 26 24,mt 5 26] (.reg [mt 27 4,mt 28 5,mt 29 0,mt 30 5,nc 31 29,fa 32 0 31,ib 33 8192 1 32 30,lb 34 1 33,kl 35 202 [(.t 34)],ia 36 32 27 28,sb 32 36 35]))) (.reg [aI 37 .add 24 1,mt 24 37]))))))) (sr [mt 38 4,mt 2 38] .ret)))
abbrev QG (f:Nat→BitVec 64):V→Hp→Nat→Prop:=fun r H' k'=>∃ n,n≤8192∧(∀ j,n≤j→j < 8192→f j=0)∧r = .sl 0 [] 0 n 32∧H'=[(0,.ar 32 n (fun j=>dg (BC (f j))))]∧k'=1
theorem Na {x:Ctx} (ok:OkM M) (hx:x.k=0) (f g:Nat→BitVec 64) (pc:BitVec 64) (hl:Bool) (e:BitVec 64) (n:Nat) (hn:n≤8192) (hz:∀ j,n≤j→j < 8192→f j=0) :
 Bm M x (Ar M x [.tmp 2] (QG f)) [.code Rf] 0 (fr 39 [(0,.imm (A3 f g pc hl e)),(3,.int .i64 n)]) []:=by
 (refine es 40 ?_;simp (maxSteps:=2000000) only [Rf,A3,Cz,↓Ad,ex,Ro,AJ,AX,Ae,seval])
 repeat refine sd ?_
 refine An (σ:=Nat) (fun q=>q≤n) (fun q=>fr 39 [(0,.imm (A3 f g pc hl e)),(4,.sl 0 [] 0 n 32),(23,.int .i64 n),(24,.int .i64 q)])
  (fun q=>[(0,.ar 32 n (fun j=>dg (if j < q then BC (f j) else Dg.zero)))]) (fun _=>1) (fun q=>n - q) 0 Aa ?_ ?_
 ·refine Ao.fr [16] [] hx AQ Am ?_ ?_
  ·simp only [Bo,seval,A3]
  ·simp only [Bo,seval,Ws]
   intro j hj
   rw [if_neg Aa]
 ·intro q hq
  have w1:IntKind.i64.wrap ((q:Int) + 1)=((q + 1:Nat):Int):=AZ
  (refine es 40 ?_;simp (maxSteps:=2000000) only [w1,A3,Cz,↓Ad,ex,Ro,AJ,AX,Ae,seval])
  refine ⟨fun hlt=>?_,fun hge=>?_⟩
  ·have hlt:=of_decide_eq_true hlt
   repeat refine sd ?_
   refine AE (GP ok _) ⟨rfl,trivial⟩ rfl ?_
   simp only [Cz,↓Ad,ex,Ro,AJ,AX,Ae,seval]
   repeat refine sd ?_
   refine ⟨q + 1,by omega,by omega,?_⟩
   refine Ao.fr [0] [] hx AQ Am ?_ ?_
   ·simp only [Bo,seval,A3]
   ·simp only [Bo,seval]
    intro j hj
    by_cases h1:j=q
    ·rw [if_pos h1,if_pos Aa,h1]
    ·rw [if_neg h1]
     by_cases h2:j < q
     ·rw [if_pos h2,if_pos Aa]
     ·rw [if_neg h2,if_neg Aa]
  ·have hge:=of_decide_eq_false hge
   have hq:q=n:=Aa
   subst hq
   refine Ar.mk hx [0] [] (.sl 0 [] 0 q 32) [(0,.ar 32 q (fun j=>dg (BC (f j))))] 1 Am ?_ ?_ ?_ ⟨q,hn,hz,rfl,rfl,rfl⟩
   ·simp only [SD,↓Ad,ex,Ro,AJ,AX,Ae,seval]
   ·simp only [Rs,↓Ad,ex,Ro,AJ,AX,Ae,seval]
   ·simp only [Bo,seval]
    intro j hj
    rw [if_pos hj]
theorem Hz (ok:OkM M) (f g:Nat→BitVec 64) (pc:BitVec 64) (hl:Bool) (e:BitVec 64) :
 Ag M 199 [.imm (A3 f g pc hl e)] [] 0 (QG f):=by
 refine Ab ok.k199 rfl fun x hx=>?_
 refine es 30 ?_
 simp only [Aii,Afe,A3,Cz,↓Ad,ex,Ro,AJ,AX,Ae,seval]
 refine An (σ:=Nat) (fun n=>n≤8192∧∀ j,n≤j→j < 8192→f j=0) (fun n=>fr 39 [(0,.imm (A3 f g pc hl e)),(3,.int .i64 n)])
  (fun _=>[]) (fun _=>0) (fun n=>n) 8192 ⟨by omega,fun j h1 h2=>by omega⟩ ?_ ?_
 ·refine Ao.fr [] [] hx AQ Am ?_ ?_
  ·simp only [Bo,seval,A3]
  ·trivial
 ·intro n ⟨hn,hz⟩
  have tail:=Na ok hx f g pc hl e
  by_cases h0:n=0
  ·have d0:decide ((0:Int) < n)=false:=decide_eq_false Aa
   (refine es 5 ?_;simp (maxSteps:=2000000) only [d0,A3,Cz,↓Ad,ex,Ro,AJ,AX,Ae,seval])
   refine Bm.weak _ _ _ ?_ (tail n hn hz)
   refine Ao.fr [] [] hx AQ Am ?_ ?_
   ·simp only [Bo,seval,A3]
   ·trivial
  ·have d0:decide ((0:Int) < n)=true:=decide_eq_true Aa
   have w1:IntKind.i64.wrap ((n:Int) - 1)=((n - 1:Nat):Int):=AZ
   (refine es 5 ?_;simp (maxSteps:=2000000) only [d0,w1,A3,Cz,↓Ad,ex,Ro,AJ,AX,Ae,seval])
   refine ⟨by omega,fun e1=>?_,fun _=>?_⟩
   ·have e1:=of_decide_eq_true e1
    have e2:f (n - 1)=0:=BitVec.eq_of_toNat_eq (by simpa using e1)
    (refine es 5 ?_;simp (maxSteps:=2000000) only [d0,w1,A3,Cz,↓Ad,ex,Ro,AJ,AX,Ae,seval])
    refine ⟨n - 1,⟨by omega,fun j h1 h2=>?_⟩,by omega,?_⟩
    ·by_cases h3:j=n - 1
     ·rw [h3,e2] <;> rfl
     ·exact hz j Aa h2
    ·refine Ao.fr [] [] hx AQ Am ?_ ?_
     ·simp only [Bo,seval,A3]
     ·trivial
   ·refine Bm.weak _ _ _ ?_ (tail n hn hz)
    refine Ao.fr [] [] hx AQ Am ?_ ?_
    ·simp only [Bo,seval,A3]
    ·trivial
def Dp (f:Nat→BitVec 64):Nat→Nat→Dg
 | 0,q=>if q < 8192 then BC (f q) else Dg.zero
 | h + 1,q=>Ch (Dp f h (2 * q)) (Dp f h (2 * q + 1))
def WE (f:Nat→BitVec 64) (n:Nat):List Dg:=(List.range n).map (fun j=>BC (f j))
theorem G9 (f:Nat→BitVec 64) (n:Nat):(WE f n).length=n:=by simp [WE]
theorem OM (f:Nat→BitVec 64) (n j:Nat) (hj:j < n) (d:Dg):(WE f n).getD j d=BC (f j):=by
 simp [WE,List.getD,List.getElem?_map,List.getElem?_range hj]
theorem Gd (f:Nat→BitVec 64) (n:Nat) (hn:n≤8192) (hz:∀ j,n≤j→j < 8192→f j=0):∀ h q,HS (WE f n) h q=Dp f h q
 | 0, q => by
   rw [Aat,Dp]
   by_cases h1:q < n
   ·rw [OM _ _ _ h1,if_pos Aa]
   ·rw [Dv (by rw [G9];omega)]
    split
    ·rw [hz q Aa Aa,Yl]
    ·rfl
 | h + 1,q=>by rw [SJ,Dp,Gd f n hn hz h,Gd f n hn hz h]
theorem El {M:Seat} (ok:OkM M) (f g:Nat→BitVec 64) (pc:BitVec 64) (hl:Bool) (e:BitVec 64) :
 Ag M 51 [.imm (A3 f g pc hl e)] [] 0 (Q3 (Ah (dg (Dp f 13 0)) .nili) [] 0):=by
 refine Ab ok.k51 rfl fun x hx=>?_
 refine es 30 ?_
 simp only [f51,c51,AD,AK,Cz,↓Ad,ex,Ro,AJ,AX,Ae,seval]
 refine BE (Hz ok f g pc hl e) False [] [] List.nodup_nil B5 rfl B5 (by simp only [Bo,Bi,A3,seval]) trivial ?_
 rintro v H' k' ⟨n,hn,hz,rfl,rfl,rfl⟩
 refine ⟨⟨by omega,fun h=>h.elim⟩,?_⟩
 have hnum:Bh [] 80 1=[80]:=rfl
 simp only [hnum,LN,V.ren,AV,A6,BS,Ex,Z3,List.append_nil,B3,ne_eq,CL,seval]
 have hl13:(WE f n).length≤2 ^ 13:=by rw [G9];omega
 refine JL [80] (RC ok 13 Aa (WE f n) hl13) ⟨rfl,?_,trivial⟩ rfl ?_
 ·simp only [row,G9,Bo,seval]
  intro j hj
  exact (OM _ _ _ hj _).symm
 simp only [Gd f n hn hz,A6,Ah,Cz,↓Ad,ex,Ro,AJ,AX,Ae,seval,LN,V.ren,AV,Ex,Z3,List.append_nil]
 refine Ar.mk hx [] [] (Ah (dg (Dp f 13 0)) .nili) [] 0 Am ?_ ?_ trivial ⟨rfl,rfl,rfl⟩
 ·simp only [SD,↓Ad,ex,Ro,AJ,AX,Ae,seval]
  rfl
 ·simp only [Rs,↓Ad,ex,Ro,AJ,AX,Ae,seval]
theorem Jz {M:Seat} (ok:OkM M) (f g:Nat→BitVec 64) (pc:BitVec 64) (hl:Bool) (e:BitVec 64) (i:Nat) (hi:i < 8192) :
 Ag M 50 [.imm (A3 f g pc hl e),.int .u64 i] [] 0 (Q3 (Ah (.st 2 (.fcons 0 (W (f i)) (.fcons 1 (.sl 0 [] 0 13 32) .fnil))) .nili) [(0,.ar 32 13 (fun h=>dg (Dp f h ((i / 2 ^ h) ^^^ 1))))] 1):=by
 refine Ab ok.k50 rfl fun x hx=>?_
 refine es 30 ?_
 have d1:decide ((8192:Int)≤i)=false:=decide_eq_false Aa
 simp only [f50,c50,d1,AD,AK,Cz,↓Ad,ex,Ro,AJ,AX,Ae,seval]
 refine BE (Hz ok f g pc hl e) False [] [] List.nodup_nil B5 rfl B5 (by simp only [Bo,Bi,A3,seval]) trivial ?_
 rintro v H' k' ⟨n,hn,hz,rfl,rfl,rfl⟩
 refine ⟨⟨by omega,fun h=>h.elim⟩,?_⟩
 have hnum:Bh [] 144 1=[144]:=rfl
 have w1:IntKind.i64.wrap (i:Int)=i:=AY Aa
 simp only [hnum,w1,LN,V.ren,AV,A6,BS,Ex,Z3,List.append_nil,B3,ne_eq,CL,seval]
 have hl13:(WE f n).length≤2 ^ 13:=by rw [G9];omega
 refine BE (Rl ok 13 Aa Aa (WE f n) hl13 i hi) False [] [144] List.nodup_nil B5 rfl B5 ⟨rfl,?_,rfl,trivial⟩ trivial ?_
 ·simp only [row,G9,Bo,seval]
  intro j hj
  exact (OM _ _ _ hj _).symm
 rintro v H' k' ⟨rfl,rfl,rfl⟩
 refine ⟨⟨by omega,fun h=>h.elim⟩,?_⟩
 have hnum2:Bh [] 192 1=[192]:=rfl
 simp only [hnum2,Ah,CJ,Gd f n hn hz,LN,V.ren,AV,A6,BS,Ex,Z3,List.append_nil,B3,ne_eq,CL,seval]
 simp only [A3,Cz,↓Ad,ex,Ro,AJ,AX,Ae,seval]
 repeat refine sd ?_
 refine Ar.mk hx [192] [] (Ah (.st 2 (.fcons 0 (W (f i)) (.fcons 1 (.sl 0 [] 0 13 32) .fnil))) .nili) [(0,.ar 32 13 (fun h=>dg (Dp f h ((i / 2 ^ h) ^^^ 1))))] 1 Am ?_ ?_ ?_ ⟨rfl,rfl,rfl⟩
 ·simp only [SD,↓Ad,ex,Ro,AJ,AX,Ae,seval]
 ·simp only [Rs,↓Ad,ex,Ro,AJ,AX,Ae,seval]
 ·simp only [Bo,seval]
theorem KB (H:Hp) (m z:List Nat) (l:List Dg) (n:Nat) (hn:l.length=n):Bi H m z (row l) (.lst 32 n (Fk l)):=by
 subst hn;exact Jb _ _ _ _
theorem Ow (ts:List Nat):AD true (.iface ts) .nili .nili=True:=by simp [AD]
theorem P5 (ts:List Nat):AK (.iface ts) .nili .nili=true:=rfl
theorem Aci (c:Bool) (ts:List Nat) (t:Nat) (v:V):AD c (.iface ts) (.ifc t v) .nili=True:=by simp [AD]
theorem Abd (ts:List Nat) (t:Nat) (v:V):AK (.iface ts) (.ifc t v) .nili=false:=by cases v <;> rfl
theorem Abn (c:Bool) (i:Nat) (p:List Stp):AD c .ptr (.ptr i p) .nilp=True:=by simp [AD]
theorem Adb (i:Nat) (p:List Stp):AK .ptr (.ptr i p) .nilp=false:=rfl
theorem UU (c:Bool) (v:V):AD c .ptr (.imm v) .nilp=True:=by simp [AD]
theorem Uo (v:V):AK .ptr (.imm v) .nilp=false:=rfl
def La3:=(FU @LQ @La0 @Nat.testBit.eq_1 @bne_self_eq_false.{0} @Aci @UU @Ow @Abn @Abd @Uo @P5 @Adb)
theorem Et {M:Seat} (ok:OkM M) (root:Dg) (i:Nat) (hi:i < 8192) (v:BitVec 64) (p:List Dg) (hp:p.length=13) :
 Ag M 53 [dg root,.int .u64 i,.st 2 (.fcons 0 (W v) (.fcons 1 (.lst 32 13 (Fk p)) .fnil))] [] 0 (Q3 (Ah (.bool (decide (C1 i (BC v) p 13=root))) .nili) [] 0):=by
 refine Ab ok.k53 rfl fun x hx=>?_
 refine es 30 ?_
 have d1:decide ((8192:Int)≤i)=false:=decide_eq_false Aa
 have w1:IntKind.i64.wrap (i:Int)=i:=AY Aa
 have d2:(!decide ((13:Int)=13))=false:=rfl
 simp only [f53,c53,d1,d2,w1,Cz,↓Ad,ex,Ro,AJ,AX,Ae,seval]
 refine ⟨_,_,AE (GP ok v) ⟨rfl,trivial⟩ rfl ⟨rfl,rfl⟩,?_⟩
 simp only [Cz,↓Ad,ex,Ro,AJ,AX,Ae,seval]
 have hf:=KE ok i (BC v) p Aa (by rw [hp];omega)
 rw [hp] at hf
 refine ⟨_,_,AE hf ⟨rfl,(AU _ _ _ _ _).mpr rfl,KB _ _ _ _ _ hp,trivial⟩ rfl ⟨rfl,rfl⟩,?_⟩
 by_cases he:C1 i (BC v) p 13=root
 ·have d3:=decide_eq_true he
  simp (maxSteps:=2000000) only [Ah,Ow,P5,d3,Cz,↓Ad,ex,Ro,AJ,AX,Ae,seval]
  refine Ar.mk hx [] [] (Ah (.bool true) .nili) [] 0 Am ?_ ?_ trivial ⟨rfl,rfl,rfl⟩
  ·simp only [SD,↓Ad,ex,Ro,AJ,AX,Ae,seval]
  ·simp only [Rs,↓Ad,ex,Ro,AJ,AX,Ae,seval]
 ·have d3:=decide_eq_false he
  simp (maxSteps:=2000000) only [Ah,Ow,P5,d3,Cz,↓Ad,ex,Ro,AJ,AX,Ae,seval]
  refine Ar.mk hx [] [] (Ah (.bool false) .nili) [] 0 Am ?_ ?_ trivial ⟨rfl,rfl,rfl⟩
  ·simp only [SD,↓Ad,ex,Ro,AJ,AX,Ae,seval]
  ·simp only [Rs,↓Ad,ex,Ro,AJ,AX,Ae,seval]
theorem PX {M:Seat} (ok:OkM M) (root:Dg) (i:Nat) (hi:i < 8192) (v:BitVec 64) (p:List Dg) (hp:p.length=13) (hh:C1 i (BC v) p 13=root) (u:BitVec 64) :
 Ag M 52 [dg root,.int .u64 i,.st 2 (.fcons 0 (W v) (.fcons 1 (.lst 32 13 (Fk p)) .fnil)),W u] [] 0 (Q3 (Ah (dg (C1 i (BC u) p 13)) .nili) [] 0):=by
 refine Ab ok.k52 rfl fun x hx=>?_
 refine es 30 ?_
 have w1:IntKind.i64.wrap (i:Int)=i:=AY Aa
 simp only [f52,c52,w1,Cz,↓Ad,ex,Ro,AJ,AX,Ae,seval]
 have hd:=Et ok root i hi v p hp
 rw [decide_eq_true hh] at hd
 refine AE hd ⟨(AU _ _ _ _ _).mpr rfl,rfl,?_,trivial⟩ rfl ?_
 ·simp only [Bo,seval]
 simp (maxSteps:=2000000) only [Ah,AD,AK,Cz,↓Ad,ex,Ro,AJ,AX,Ae,seval]
 refine ⟨_,_,AE (GP ok u) ⟨rfl,trivial⟩ rfl ⟨rfl,rfl⟩,?_⟩
 simp only [Cz,↓Ad,ex,Ro,AJ,AX,Ae,seval]
 have hf:=KE ok i (BC u) p Aa (by rw [hp];omega)
 rw [hp] at hf
 refine ⟨_,_,AE hf ⟨rfl,(AU _ _ _ _ _).mpr rfl,KB _ _ _ _ _ hp,trivial⟩ rfl ⟨rfl,rfl⟩,?_⟩
 simp (maxSteps:=2000000) only [Ah,AD,AK,Cz,↓Ad,ex,Ro,AJ,AX,Ae,seval]
 refine Ar.mk hx [] [] (Ah (dg (C1 i (BC u) p 13)) .nili) [] 0 Am ?_ ?_ trivial ⟨rfl,rfl,rfl⟩
 ·simp only [SD,↓Ad,ex,Ro,AJ,AX,Ae,seval]
  rfl
 ·simp only [Rs,↓Ad,ex,Ro,AJ,AX,Ae,seval]
end Mv
