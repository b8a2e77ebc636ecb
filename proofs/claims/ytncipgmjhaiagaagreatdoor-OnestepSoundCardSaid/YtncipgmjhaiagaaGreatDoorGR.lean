/- A part. -/
import Derived.Test.YtncipgmjhaiagaaGreatDoorGQ
set_option linter.all false
set_option maxRecDepth 20000
set_option maxHeartbeats 4000000
namespace Mv
open Go
variable {M:Seat}
def Jw (l:List Dg) (h q:Nat):Dg:=(B0 l h).getD q (Am h)
theorem Aeh (l:List Dg) (q:Nat):Jw l 0 q=l.getD q Dg.zero:=rfl
theorem Uz (l:List Dg) (h q:Nat):Jw l (h + 1) q=B2 (Jw l h (2 * q)) (Jw l h (2 * q + 1)):=by
 unfold Jw
 by_cases hq:q < ((B0 l h).length + 1) / 2
 ·rw [B0,Ac3 _ _ _ _ hq];rfl
 ·rw [DC (by rw [B0,I7];omega),DC Aa,DC Aa];rfl
theorem S6 (l:List Dg) (hl:0 < l.length):∀ h,0 < (B0 l h).length
 | 0=>hl
 | h + 1 => by
   have:=S6 l hl h
   rw [B0,I7];omega
theorem D3 (m:List Nat) (l:List Dg) (h:Nat):(Fs l h).ren m=Fs l h:=by
 rcases CP l h with e | ⟨e,_⟩ <;> rw [e] <;> rfl
theorem K9 (H:Hp) (m z:List Nat) (l:List Dg):Bd H m z (row l) (row l):=by
 simp only [row,Bd,Aw,true_and]
 exact fun j _=>(AJ _ _ _ _ _).mpr rfl
theorem Tz (ok:OkM M) (d:Nat) (hd:d≤16) (l:List Dg) (hl:l.length≤2 ^ d) :
 Af M 200 [.int .i64 d,row l] [] 0 (Q3 (Ao (dg (Jw l d 0)) .nili) [] 0):=by
 refine Ac ok.k200 rfl fun x hx=>?_
 refine es 30 ?_
 simp only [Ai6,Akk,CH,↓Ab,ex,Ro,AC,A5,Ad,seval]
 refine B3 (IQ ok d hd l hl) False [] [] List.nodup_nil Bu rfl Bu ⟨rfl,K9 _ _ _ _,trivial⟩ trivial ?_
 rintro v H' k' ⟨rfl,rfl,rfl⟩
 refine ⟨⟨by omega,fun h=>h.elim⟩,?_⟩
 have hnum:Bc [] 64 1=[64]:=rfl
 simp only [hnum,BD,LN,V.ren,AQ,A4,BO,D3,YE,List.append_nil,Vl,ne_eq,CD,seval]
 by_cases h0:l.length=0
 ·have d0:decide ((l.length:Int)=0)=true:=by rw [h0];rfl
  have hn:Jw l d 0=Am d:=DC (by have:=MM l d;omega) _
  simp (maxSteps:=2000000) only [row,AH,AN,d0,CH,↓Ab,ex,Ro,AC,A5,Ad,seval]
  repeat refine sd ?_
  simp only [hn]
  refine Aq.mk hx [] [] (Ao (dg (Am d)) .nili) [] 0 Ak ?_ ?_ trivial ⟨rfl,rfl,rfl⟩
  ·simp only [Lc,↓Ab,ex,Ro,AC,A5,Ad,seval]
   rfl
  ·simp only [Lb,↓Ab,ex,Ro,AC,A5,Ad,seval]
 ·have d0:decide ((l.length:Int)=0)=false:=decide_eq_false Aa
  have hpos:=S6 l Aa d
  rcases CP l d with hv | ⟨hv,hL⟩
  ·simp (maxSteps:=2000000) only [row,AH,AN,d0,E1,FF,Ij,hv,CH,↓Ab,ex,Ro,AC,A5,Ad,seval]
   repeat refine sd ?_
   have hn:(B0 l d).getD 0 Dg.zero=Jw l d 0:=EC hpos _ _
   simp only [hn]
   refine Aq.mk hx [] [] (Ao (dg (Jw l d 0)) .nili) [] 0 Ak ?_ ?_ trivial ⟨rfl,rfl,rfl⟩
   ·simp only [Lc,↓Ab,ex,Ro,AC,A5,Ad,seval]
    rfl
   ·simp only [Lb,↓Ab,ex,Ro,AC,A5,Ad,seval]
  ·rw [hL] at hpos;simp at hpos
theorem V5 {g:Nat} (h:g < 4611686018427387904):IntKind.i64.wrap ((g:Int).tdiv 2)=((g / 2:Nat):Int):=by
 rw [Int.tdiv_eq_ediv_of_nonneg Aa,AI Aa];omega
theorem Ada (g:Nat):decide ((g:Int).tmod 2=0)=decide (g % 2=0):=by
 rw [decide_eq_decide,Int.tmod_eq_emod_of_nonneg Aa];omega
theorem JG (i q:Nat):i / 2 ^ (q + 1)=i / 2 ^ q / 2:=by rw [Nat.pow_succ,Nat.div_div_eq_div_mul]
def BZ (i:Nat) (x:Dg) (p:List Dg):Nat→Dg
 | 0=>x
 | q + 1=>if (i / 2 ^ q) % 2=0 then B2 (BZ i x p q) (p.getD q Dg.zero) else B2 (p.getD q Dg.zero) (BZ i x p q)
theorem MA (ok:OkM M) (i:Nat) (v:Dg) (p:List Dg) (hp:p.length≤16) (hi:i < 2 ^ p.length) :
 Af M 201 [.int .i64 i,dg v,row p] [] 0 (Q3 (Ao (dg (BZ i v p p.length)) .nili) [] 0):=by
 have h16:2 ^ p.length≤2 ^ 16:=Nat.pow_le_pow_right Aa hp
 refine Ac ok.k201 rfl fun x hx=>?_
 refine es 30 ?_
 have d1:decide ((16:Int) < p.length)=false:=decide_eq_false Aa
 have d2:decide ((i:Int) < 0)=false:=decide_eq_false Aa
 have w0:=Xg hp
 have d3:decide (((2 ^ p.length:Nat):Int)≤i)=false:=decide_eq_false Aa
 simp (maxSteps:=2000000) only [Afc,Amf,row,d1,d2,d3,w0,CH,↓Ab,ex,Ro,AC,A5,Ad,seval]
 repeat refine sd ?_
 refine Ag (σ:=Nat) (fun q=>q≤p.length) (fun q=>fr 45 [(0,.int .i64 (i / 2 ^ q:Nat)),(4,.ptr 0 []),(6,.ptr 1 []),(7,.nili),(26,.lst 32 p.length (Gc p)),(27,.int .i64 p.length),(28,.int .i64 q)])
  (fun q=>[(0,dg (BZ i v p q)),(1,dg Dg.zero)]) (fun _=>2) (fun q=>p.length - q) 0 Aa ?_ ?_
 ·refine Aj.fr [0,16] [] hx Ax Ak ?_ ?_
  ·simp only [A7,seval,Nat.pow_zero,Nat.div_one]
  ·simp only [A7,seval,Yf]
   rfl
 ·intro q hq
  have hle:i / 2 ^ q≤i:=Nat.div_le_self _ _
  have w1:IntKind.i64.wrap (((i / 2 ^ q:Nat):Int).tdiv 2)=((i / 2 ^ (q + 1):Nat):Int):=by rw [V5 Aa,JG]
  have w2:IntKind.i64.wrap ((q:Int) + 1)=((q + 1:Nat):Int):=A9
  by_cases he:(i / 2 ^ q) % 2=0
  ·have d4:decide (((i / 2 ^ q:Nat):Int).tmod 2=0)=true:=by rw [Ada];exact decide_eq_true he
   (refine es 40 ?_;simp (maxSteps:=2000000) only [d4,w1,w2,CH,↓Ab,ex,Ro,AC,A5,Ad,seval])
   refine ⟨fun hlt=>?_,fun hge=>?_⟩
   ·have hlt:=of_decide_eq_true hlt
    repeat refine sd ?_
    refine AB (Bj ok _ _) ⟨(AJ _ _ _ _ _).mpr rfl,(AJ _ _ _ _ _).mpr rfl,trivial⟩ rfl ?_
    simp only [CH,↓Ab,ex,Ro,AC,A5,Ad,seval]
    repeat refine sd ?_
    refine ⟨q + 1,by omega,by omega,?_⟩
    refine Aj.fr [0,1] [] hx Ax Ak ?_ ?_
    ·simp only [A7,seval]
    ·simp only [A7,seval,BZ,if_pos he]
   ·have hge:=of_decide_eq_false hge
    have hqe:q=p.length:=Aa
    subst hqe
    refine Aq.mk hx [] [] (Ao (dg (BZ i v p p.length)) .nili) [] 0 Ak ?_ ?_ trivial ⟨rfl,rfl,rfl⟩
    ·simp only [Lc,↓Ab,ex,Ro,AC,A5,Ad,seval]
     rfl
    ·simp only [Lb,↓Ab,ex,Ro,AC,A5,Ad,seval]
  ·have d4:decide (((i / 2 ^ q:Nat):Int).tmod 2=0)=false:=by rw [Ada];exact decide_eq_false he
   (refine es 40 ?_;simp (maxSteps:=2000000) only [d4,w1,w2,CH,↓Ab,ex,Ro,AC,A5,Ad,seval])
   refine ⟨fun hlt=>?_,fun hge=>?_⟩
   ·have hlt:=of_decide_eq_true hlt
    repeat refine sd ?_
    refine AB (Bj ok _ _) ⟨(AJ _ _ _ _ _).mpr rfl,(AJ _ _ _ _ _).mpr rfl,trivial⟩ rfl ?_
    simp only [CH,↓Ab,ex,Ro,AC,A5,Ad,seval]
    repeat refine sd ?_
    refine ⟨q + 1,by omega,by omega,?_⟩
    refine Aj.fr [0,1] [] hx Ax Ak ?_ ?_
    ·simp only [A7,seval]
    ·simp only [A7,seval,BZ,if_neg he]
   ·have hge:=of_decide_eq_false hge
    have hqe:q=p.length:=Aa
    subst hqe
    refine Aq.mk hx [] [] (Ao (dg (BZ i v p p.length)) .nili) [] 0 Ak ?_ ?_ trivial ⟨rfl,rfl,rfl⟩
    ·simp only [Lc,↓Ab,ex,Ro,AC,A5,Ad,seval]
     rfl
    ·simp only [Lb,↓Ab,ex,Ro,AC,A5,Ad,seval]
def Dp (l:List Dg) (i h:Nat):Dg:=Jw l h ((i / 2 ^ h) ^^^ 1)
theorem XG {f:Nat→Dg} {q:Nat} {v:Dg} (hu:f q=v) (i:Nat) (hi:i < q + 1):(if i < q then dg (f i) else if i - q=0 then dg v else V.ar 1 32 (fun _=>V.int .u8 0))=dg (f i):=by
 by_cases h:i < q
 ·rw [if_pos h]
 ·have:i=q:=Aa
  subst this
  rw [if_neg h,if_pos Aa,hu]
theorem VX {f:Nat→Dg} {v:Dg} (hu:f 0=v) (i:Nat) (hi:i < 1):(if i=0 then dg v else V.ar 1 32 (fun _=>V.int .u8 0))=dg (f i):=by
 have:i=0:=Aa
 subst this
 rw [if_pos rfl,hu]
theorem Ai9 {g:Nat} (h:g < 4611686018427387904):IntKind.i64.wrap (((BitVec.ofInt IntKind.i64.bits (g:Int) ^^^ BitVec.ofInt IntKind.i64.bits 1).toNat:Nat):Int)=((g ^^^ 1:Nat):Int):=by
 show IntKind.i64.wrap (((BitVec.ofInt 64 (g:Int) ^^^ BitVec.ofInt 64 ((1:Nat):Int)).toNat:Nat):Int)=_
 have h2:g ^^^ 1 < 2 ^ 63:=Nat.xor_lt_two_pow Aa Aa
 rw [BB,BB,BitVec.toNat_xor,BitVec.toNat_ofNat,BitVec.toNat_ofNat,Nat.mod_eq_of_lt Aa,Nat.mod_eq_of_lt Aa]
 rw [AI Aa]
theorem TU (ok:OkM M) (d:Nat) (hd0:0 < d) (hd:d≤16) (l:List Dg) (hl:l.length≤2 ^ d) (i:Nat) (hi:i < 2 ^ d) :
 Af M 198 [.int .i64 d,row l,.int .i64 i] [] 0 (Q3 (Ao (.sl 0 [] 0 d 32) .nili) [(0,.ar 32 d (fun h=>dg (Dp l i h)))] 1):=by
 have h16:2 ^ d≤2 ^ 16:=Nat.pow_le_pow_right Aa hd
 refine Ac ok.k198 rfl fun x hx=>?_
 refine es 30 ?_
 simp only [Ae4,Ajp,CH,↓Ab,ex,Ro,AC,A5,Ad,seval]
 refine B3 (IQ ok d hd l hl) False [] [] List.nodup_nil Bu rfl Bu ⟨rfl,K9 _ _ _ _,trivial⟩ trivial ?_
 rintro v H' k' ⟨rfl,rfl,rfl⟩
 refine ⟨⟨by omega,fun h=>h.elim⟩,?_⟩
 have hnum:Bc [] 64 1=[64]:=rfl
 simp only [hnum,BD,LN,V.ren,AQ,A4,BO,D3,YE,List.append_nil,Vl,ne_eq,CD,seval]
 have d1:decide ((i:Int) < 0)=false:=decide_eq_false Aa
 have w0:=Xg hd
 have d3:decide (((2 ^ d:Nat):Int)≤i)=false:=decide_eq_false Aa
 simp (maxSteps:=2000000) only [AH,AN,d1,d3,w0,CH,↓Ab,ex,Ro,AC,A5,Ad,seval]
 repeat refine sd ?_
 refine Ag (σ:=Nat) (fun h=>h≤d) (fun h=>fr 65 [(2,.int .i64 (i / 2 ^ h:Nat)),(8,.sl 1 [] 0 (d + 1) 1),(9,.ptr 0 []),(11,if h=0 then .nils else .sl 2 [] 0 h 32),(34,.int .i64 d),(35,.int .i64 h)])
  (fun h=>(0,.ar 32 17 (fun j=>dg (Am j))) :: (1,.ar 1 (d + 1) (Fs l)) :: (if h=0 then [] else [(2,.ar 32 h (fun j=>dg (Dp l i j)))])) (fun _=>3) (fun h=>d - h) 0 Aa ?_ ?_
 ·refine Aj.fr [144,64] [] hx Ax Ak ?_ ?_
  ·simp only [A7,seval,Nat.pow_zero,Nat.div_one]
  ·simp only [A7,seval]
   exact fun _ _=>Be _ _ _ _ _
 ·intro h hh
  have hle:i / 2 ^ h≤i:=Nat.div_le_self _ _
  have w1:IntKind.i64.wrap (((i / 2 ^ h:Nat):Int).tdiv 2)=((i / 2 ^ (h + 1):Nat):Int):=by rw [V5 Aa,JG]
  have w2:IntKind.i64.wrap ((h:Int) + 1)=((h + 1:Nat):Int):=A9
  have w4:=Ai9 (g:=i / 2 ^ h) Aa
  by_cases hhd:h=d
  ·have d0:decide ((h:Int) < d)=false:=decide_eq_false Aa
   have hne:h ≠ 0:=Aa
   simp only [if_neg hne]
   (refine es 18 ?_;simp (maxSteps:=2000000) only [d0,CH,↓Ab,ex,Ro,AC,A5,Ad,seval])
   subst hhd
   refine Aq.mk hx [2] [] (Ao (.sl 0 [] 0 h 32) .nili) [(0,.ar 32 h (fun j=>dg (Dp l i j)))] 1 Ak ?_ ?_ ?_ ⟨rfl,rfl,rfl⟩
   ·simp only [Lc,↓Ab,ex,Ro,AC,A5,Ad,seval]
   ·simp only [Lb,↓Ab,ex,Ro,AC,A5,Ad,seval]
   ·simp only [A7,seval]
  have d0:decide ((h:Int) < d)=true:=decide_eq_true Aa
  rcases CP l h with hv | ⟨hv,hL⟩
  ·by_cases hk:(i / 2 ^ h) ^^^ 1 < (B0 l h).length
   ·have d5:decide ((((i / 2 ^ h) ^^^ 1:Nat):Int) < (B0 l h).length)=true:=decide_eq_true Aa
    (refine es 18 ?_;simp (maxSteps:=2000000) only [d0,w1,w2,w4,d5,hv,E1,FF,Ij,CH,↓Ab,ex,Ro,AC,A5,Ad,seval])
    refine SY (fr 65 [(2,.int .i64 (i / 2 ^ h:Nat)),(8,.sl 1 [] 0 (d + 1) 1),(9,.ptr 0 []),(11,if h=0 then .nils else .sl 2 [] 0 h 32),(13,.ptr 3 []),(34,.int .i64 d),(35,.int .i64 h)])
     ((3,dg (Dp l i h)) :: (0,.ar 32 17 (fun j=>dg (Am j))) :: (1,.ar 1 (d + 1) (Fs l)) :: (if h=0 then [] else [(2,.ar 32 h (fun j=>dg (Dp l i j)))])) 4 ?_
     (fun key=>⟨by omega,by omega,by omega,by omega,by omega,by omega,by omega,Bl.weak _ _ _ ?_ key⟩)
    ·by_cases h0:h=0
     ·subst h0
      simp only [if_true]
      (refine es 40 ?_;simp (maxSteps:=2000000) only [w1,w2,CH,↓Ab,ex,Ro,AC,A5,Ad,seval])
      repeat refine sd ?_
      refine ⟨0 + 1,by omega,by omega,?_⟩
      refine Aj.fr [0,1,52] [] hx Ax Ak ?_ ?_
      ·simp only [if_neg (Nat.add_one_ne_zero 0),A7,seval]
       rfl
      ·simp only [if_neg (Nat.add_one_ne_zero 0),A7,seval]
       exact ⟨fun _ _=>Be _ _ _ _ _,fun j hj=>by rw [VX (f:=Dp l i) rfl j hj];exact (AJ _ _ _ _ _).mpr rfl⟩
     ·simp only [if_neg h0]
      (refine es 40 ?_;simp (maxSteps:=2000000) only [w1,w2,CH,↓Ab,ex,Ro,AC,A5,Ad,seval])
      repeat refine sd ?_
      refine ⟨h + 1,by omega,by omega,?_⟩
      refine Aj.fr [0,1,52] [] hx Ax Ak ?_ ?_
      ·simp only [if_neg (Nat.add_one_ne_zero h),A7,seval]
      ·simp only [if_neg (Nat.add_one_ne_zero h),A7,seval]
       exact ⟨fun _ _=>Be _ _ _ _ _,fun j hj=>by rw [XG (f:=Dp l i) rfl j hj];exact (AJ _ _ _ _ _).mpr rfl⟩
    ·refine Aj.fr [0,1,2,99] [] hx Ax Ak ?_ ?_
     ·simp only [A7,seval]
      by_cases h0:h=0
      ·simp only [if_pos h0,A7,seval]
      ·simp only [if_neg h0,A7,seval]
     ·simp only [A7,seval]
      refine ⟨EC hk _ _,fun _ _=>Be _ _ _ _ _,?_⟩
      by_cases h0:h=0
      ·simp only [if_pos h0,A7,seval]
      ·simp only [if_neg h0,A7,seval]
   ·have d5:decide ((((i / 2 ^ h) ^^^ 1:Nat):Int) < (B0 l h).length)=false:=decide_eq_false Aa
    (refine es 18 ?_;simp (maxSteps:=2000000) only [d0,w1,w2,w4,d5,hv,E1,FF,Ij,CH,↓Ab,ex,Ro,AC,A5,Ad,seval])
    refine SY (fr 65 [(2,.int .i64 (i / 2 ^ h:Nat)),(8,.sl 1 [] 0 (d + 1) 1),(9,.ptr 0 []),(11,if h=0 then .nils else .sl 2 [] 0 h 32),(13,.ptr 3 []),(34,.int .i64 d),(35,.int .i64 h)])
     ((3,dg (Dp l i h)) :: (0,.ar 32 17 (fun j=>dg (Am j))) :: (1,.ar 1 (d + 1) (Fs l)) :: (if h=0 then [] else [(2,.ar 32 h (fun j=>dg (Dp l i j)))])) 4 ?_
     (fun key=>⟨by omega,by omega,by omega,by omega,Bl.weak _ _ _ ?_ key⟩)
    ·by_cases h0:h=0
     ·subst h0
      simp only [if_true]
      (refine es 40 ?_;simp (maxSteps:=2000000) only [w1,w2,CH,↓Ab,ex,Ro,AC,A5,Ad,seval])
      repeat refine sd ?_
      refine ⟨0 + 1,by omega,by omega,?_⟩
      refine Aj.fr [0,1,52] [] hx Ax Ak ?_ ?_
      ·simp only [if_neg (Nat.add_one_ne_zero 0),A7,seval]
       rfl
      ·simp only [if_neg (Nat.add_one_ne_zero 0),A7,seval]
       exact ⟨fun _ _=>Be _ _ _ _ _,fun j hj=>by rw [VX (f:=Dp l i) rfl j hj];exact (AJ _ _ _ _ _).mpr rfl⟩
     ·simp only [if_neg h0]
      (refine es 40 ?_;simp (maxSteps:=2000000) only [w1,w2,CH,↓Ab,ex,Ro,AC,A5,Ad,seval])
      repeat refine sd ?_
      refine ⟨h + 1,by omega,by omega,?_⟩
      refine Aj.fr [0,1,52] [] hx Ax Ak ?_ ?_
      ·simp only [if_neg (Nat.add_one_ne_zero h),A7,seval]
      ·simp only [if_neg (Nat.add_one_ne_zero h),A7,seval]
       exact ⟨fun _ _=>Be _ _ _ _ _,fun j hj=>by rw [XG (f:=Dp l i) rfl j hj];exact (AJ _ _ _ _ _).mpr rfl⟩
    ·refine Aj.fr [0,1,2,99] [] hx Ax Ak ?_ ?_
     ·simp only [A7,seval]
      by_cases h0:h=0
      ·simp only [if_pos h0,A7,seval]
      ·simp only [if_neg h0,A7,seval]
     ·simp only [A7,seval]
      refine ⟨(DC Aa _).symm,fun _ _=>Be _ _ _ _ _,?_⟩
      by_cases h0:h=0
      ·simp only [if_pos h0,A7,seval]
      ·simp only [if_neg h0,A7,seval]
  ·have d5:decide ((((i / 2 ^ h) ^^^ 1:Nat):Int) < 0)=false:=decide_eq_false Aa
   (refine es 18 ?_;simp (maxSteps:=2000000) only [d0,w1,w2,w4,d5,hv,E1,FF,Ij,CH,↓Ab,ex,Ro,AC,A5,Ad,seval])
   refine SY (fr 65 [(2,.int .i64 (i / 2 ^ h:Nat)),(8,.sl 1 [] 0 (d + 1) 1),(9,.ptr 0 []),(11,if h=0 then .nils else .sl 2 [] 0 h 32),(13,.ptr 3 []),(34,.int .i64 d),(35,.int .i64 h)])
    ((3,dg (Dp l i h)) :: (0,.ar 32 17 (fun j=>dg (Am j))) :: (1,.ar 1 (d + 1) (Fs l)) :: (if h=0 then [] else [(2,.ar 32 h (fun j=>dg (Dp l i j)))])) 4 ?_
    (fun key=>⟨by omega,by omega,by omega,by omega,Bl.weak _ _ _ ?_ key⟩)
   ·by_cases h0:h=0
    ·subst h0
     simp only [if_true]
     (refine es 40 ?_;simp (maxSteps:=2000000) only [w1,w2,CH,↓Ab,ex,Ro,AC,A5,Ad,seval])
     repeat refine sd ?_
     refine ⟨0 + 1,by omega,by omega,?_⟩
     refine Aj.fr [0,1,52] [] hx Ax Ak ?_ ?_
     ·simp only [if_neg (Nat.add_one_ne_zero 0),A7,seval]
      rfl
     ·simp only [if_neg (Nat.add_one_ne_zero 0),A7,seval]
      exact ⟨fun _ _=>Be _ _ _ _ _,fun j hj=>by rw [VX (f:=Dp l i) rfl j hj];exact (AJ _ _ _ _ _).mpr rfl⟩
    ·simp only [if_neg h0]
     (refine es 40 ?_;simp (maxSteps:=2000000) only [w1,w2,CH,↓Ab,ex,Ro,AC,A5,Ad,seval])
     repeat refine sd ?_
     refine ⟨h + 1,by omega,by omega,?_⟩
     refine Aj.fr [0,1,52] [] hx Ax Ak ?_ ?_
     ·simp only [if_neg (Nat.add_one_ne_zero h),A7,seval]
     ·simp only [if_neg (Nat.add_one_ne_zero h),A7,seval]
      exact ⟨fun _ _=>Be _ _ _ _ _,fun j hj=>by rw [XG (f:=Dp l i) rfl j hj];exact (AJ _ _ _ _ _).mpr rfl⟩
   ·refine Aj.fr [0,1,2,99] [] hx Ax Ak ?_ ?_
    ·simp only [A7,seval]
     by_cases h0:h=0
     ·simp only [if_pos h0,A7,seval]
     ·simp only [if_neg h0,A7,seval]
    ·simp only [A7,seval]
     refine ⟨by rw [Dp,Jw,hL];rfl,fun _ _=>Be _ _ _ _ _,?_⟩
     by_cases h0:h=0
     ·simp only [if_pos h0,A7,seval]
     ·simp only [if_neg h0,A7,seval]
def Zl (v:Int) (i:Nat):Int:=(v / 2 ^ (56 - 8 * i)) % 256
theorem JU {M:Seat} (hc:Al M 312 UJ=true) (L o n:Nat) (g:Nat→Int) (v:Int) (hv:0≤v) (hn:8≤n) (hL:o + n≤L) :
 Af M 312 [.sl 0 [] o n 1,.int .u64 v] [(0,.ar 1 L fun j=>.int .u8 (g j))] 1 (Q3 (.tup .fnil) [(0,.ar 1 L (fun j=>.int .u8 (if o≤j∧j < o + 8 then Zl v (j - o) else g j)))] 1):=by
 refine Ac hc rfl fun x hx=>?_
 refine es 30 ?_
 simp only [UJ,Aly,Fe,↓Ab,ex,Ro,AC,A5,Ad,Nat.reduceLT,Int.reduceLE,Int.reduceLT,Nat.reducePow,Nat.reduceAnd,Nat.reduceOr,Nat.reduceShiftRight,Int.reduceToNat,reduceCtorEq,Nat.reduceAdd,Nat.reduceMul,Nat.reduceSub,Nat.reduceBEq,Nat.reduceEqDiff]
 refine Ag (σ:=Nat) (fun i=>i≤8) (fun i=>fr 18 [(0,.sl 0 [] o n 1),(1,.int .u64 v),(5,.int .i64 i)])
  (fun i=>[(0,.ar 1 L (fun j=>.int .u8 (if o≤j∧j < o + i then Zl v (j - o) else g j)))]) (fun _=>1) (fun i=>8 - i) 0 Aa ?_ ?_
 ·refine Aj.fr [0] [] hx Ax Ak ?_ ?_
  ·simp only [Lz,Nat.reduceLT,reduceCtorEq,Nat.reduceEqDiff]
   rfl
  ·simp only [Lz,Nat.reduceLT,reduceCtorEq,Nat.reduceEqDiff]
   intro i hi
   rw [if_neg Aa]
 ·intro i hi
  refine es 30 ?_
  simp only [Fe,↓Ab,ex,Ro,AC,A5,Ad,Nat.reduceLT,Int.reduceLE,Int.reduceLT,Nat.reducePow,Nat.reduceAnd,Nat.reduceOr,Nat.reduceShiftRight,Int.reduceToNat,reduceCtorEq,Nat.reduceAdd,Nat.reduceMul,Nat.reduceSub,Nat.reduceBEq,Nat.reduceEqDiff]
  refine ⟨fun hlt=>?_,fun hge=>?_⟩
  ·have hlt:(i:Int) < 8:=Au1
   have w1:IntKind.i64.wrap (8 * ↑i)=8 * i:=AI Aa
   have w2:IntKind.i64.wrap (56 - 8 * ↑i)=56 - 8 * i:=AI Aa
   have w3:IntKind.i64.wrap ((i:Int) + 1)=i + 1:=AI Aa
   simp only [w1,w2,w3]
   refine ⟨by omega,⟨by omega,by omega⟩,by omega,i + 1,by omega,by omega,Aj.fr [0] [] hx Ax Ak ?_ ?_⟩
   ·simp only [Lz,Nat.reduceLT,reduceCtorEq,Nat.reduceEqDiff]
    omega
   ·simp only [Lz,Nat.reduceLT,reduceCtorEq,Nat.reduceEqDiff]
    intro j hj
    by_cases hji:j=o + i
    ·rw [if_pos hji,if_pos Aa,KB,Int.fdiv_eq_ediv_of_nonneg _ (Int.pow_nonneg Aa),Zl]
     have e1:min (56 - 8 * (i:Int)).toNat IntKind.u64.bits=56 - 8 * (j - o):=by simp only [IntKind.bits];omega
     rw [e1]
    ·rw [if_neg hji]
     by_cases h2:o≤j∧j < o + i
     ·rw [if_pos h2,if_pos Aa]
     ·rw [if_neg h2,if_neg Aa]
  ·have hge:¬ (i:Int) < 8:=TV
   have hi8:i=8:=Aa
   subst hi8
   refine Aq.mk hx [0] [] (.tup .fnil) _ 1 Ak ?_ ?_ ?_ ⟨rfl,rfl,rfl⟩
   ·simp [DS,Gx,HD]
   ·simp [DS,GH,Bd,Aw]
   ·simp only [Lz,Nat.reduceLT,reduceCtorEq,Nat.reduceEqDiff]
    intro i hi
    trivial
variable {M:Seat}
def B5 (v:BitVec 64):Dg:=Dg.mk' fun j=>if j < 24 then 0 else (v >>> (56 - 8 * (j - 24))).setWidth 8
theorem XM (v:BitVec 64) (i:Nat):V.int .u8 (Zl (v.toNat:Int) i)=B ((v >>> (56 - 8 * i)).setWidth 8):=by
 simp only [B,Zl,BitVec.toNat_setWidth,Lb4]
 congr 1
theorem Sa:B5 0=Dg.zero:=by
 apply Dg.ext'
 intro j hj
 rw [B5,Dg.at_mk' _ _ hj,Dg.at_zero]
 split
 ·rfl
 ·simp
theorem XR (v:BitVec 64):V.ar 1 32 (fun i=>V.int .u8 (if 24≤i∧i < 24 + 8 then Zl (v.toNat:Int) (i - 24) else 0))=dg (B5 v):=by
 have h:(fun i=>V.int .u8 (if 24≤i∧i < 24 + 8 then Zl (v.toNat:Int) (i - 24) else 0))=fun j=>B ((B5 v).at j):=by
  funext j
  by_cases hj:j < 32
  ·rw [B5,Dg.at_mk' _ _ hj]
   by_cases h2:j < 24
   ·rw [if_pos h2,if_neg Aa];rfl
   ·rw [if_neg h2,if_pos Aa,XM]
  ·rw [if_neg Aa]
   simp only [Dg.at,List.getD]
   rw [List.getElem?_eq_none (by rw [(B5 v).h];omega)];rfl
 simp only [dg,h]
theorem I8 (ok:OkM M) (v:BitVec 64) :
 Af M 202 [W v] [] 0 (Q3 (dg (B5 v)) [] 0):=by
 refine Ac ok.k202 rfl fun x hx=>?_
 refine es 30 ?_
 simp only [Ag5,Ajo,CH,↓Ab,ex,Ro,AC,A5,Ad,seval]
 refine B3 (JU ok.k312 32 24 8 (fun _=>0) (v.toNat:Int) Aa Aa Aa) False [16] [] Bu Bu rfl (by simp [Ae]) (by simp only [A7,seval,W]) (by simp only [A7,seval]) ?_
 rintro r H' k' ⟨rfl,rfl,rfl⟩
 refine ⟨⟨by omega,fun h=>h.elim⟩,?_⟩
 have hnum:Bc [16] 64 1=[16]:=rfl
 simp only [hnum,LN,V.ren,AQ,A4,BO,D3,YE,List.append_nil,Vl,ne_eq,CD,seval]
 simp only [XR,CH,↓Ab,ex,Ro,AC,A5,Ad,seval]
 refine Aq.mk hx [] [] (dg (B5 v)) [] 0 Ak ?_ ?_ trivial ⟨rfl,rfl,rfl⟩
 ·simp only [Lc,↓Ab,ex,Ro,AC,A5,Ad,seval]
 ·simp only [Lb,↓Ab,ex,Ro,AC,A5,Ad,seval]
def mach (f g:Nat→BitVec 64) (pc:BitVec 64) (hl:Bool) (ex:BitVec 64):V :=
 .st 8211 (.fcons 0 (.ar 1 8192 (fun j=>W (f j))) (.fcons 8192 (.ar 1 16 (fun j=>W (g j))) (.fcons 8208 (W pc) (.fcons 8209 (.bool hl) (.fcons 8210 (W ex) .fnil)))))
def Sw:LC:=(sr [mt 20 3,A1 21 (.mksl 32 32 (.ar 32 (.int .u8)) (.t 20) (.t 20)),mt 4 21] (.seq (sr [mt 22 4,
  lN 23 0 22,
  mI 24 0] (.block 2 (.loop (sr [ak 25 .lss 24 23] (.seq (cXx 25 2) (.seq (.block 3 (sr [mt 26 24,mt 5 26] (.reg [mt 27 4,mt 28 5,mt 29 0,mt 30 5,nc 31 29,fa 32 0 31,ib 33 8192 1 32 30,lb 34 1 33,kl 35 202 [(.t 34)],ia 36 32 27 28,sb 32 36 35]))) (.reg [aI 37 .add 24 1,mt 24 37]))))))) (sr [mt 38 4,mt 2 38] .ret)))
abbrev SW (f:Nat→BitVec 64):V→Hp→Nat→Prop:=fun r H' k'=>∃ n,n≤8192∧(∀ j,n≤j→j < 8192→f j=0)∧r = .sl 0 [] 0 n 32∧H'=[(0,.ar 32 n (fun j=>dg (B5 (f j))))]∧k'=1
theorem PD {x:Ctx} (ok:OkM M) (hx:x.k=0) (f g:Nat→BitVec 64) (pc:BitVec 64) (hl:Bool) (e:BitVec 64) (n:Nat) (hn:n≤8192) (hz:∀ j,n≤j→j < 8192→f j=0) :
 Bl M x (Aq M x [.tmp 2] (SW f)) [.code Sw] 0 (fr 39 [(0,.imm (mach f g pc hl e)),(3,.int .i64 n)]) []:=by
 (refine es 40 ?_;simp (maxSteps:=2000000) only [Sw,mach,CH,↓Ab,ex,Ro,AC,A5,Ad,seval])
 repeat refine sd ?_
 refine Ag (σ:=Nat) (fun q=>q≤n) (fun q=>fr 39 [(0,.imm (mach f g pc hl e)),(4,.sl 0 [] 0 n 32),(23,.int .i64 n),(24,.int .i64 q)])
  (fun q=>[(0,.ar 32 n (fun j=>dg (if j < q then B5 (f j) else Dg.zero)))]) (fun _=>1) (fun q=>n - q) 0 Aa ?_ ?_
 ·refine Aj.fr [16] [] hx Ax Ak ?_ ?_
  ·simp only [A7,seval,mach]
  ·simp only [A7,seval,Yf]
   intro j hj
   rw [if_neg Aa]
 ·intro q hq
  have w1:IntKind.i64.wrap ((q:Int) + 1)=((q + 1:Nat):Int):=A9
  (refine es 40 ?_;simp (maxSteps:=2000000) only [w1,mach,CH,↓Ab,ex,Ro,AC,A5,Ad,seval])
  refine ⟨fun hlt=>?_,fun hge=>?_⟩
  ·have hlt:=of_decide_eq_true hlt
   repeat refine sd ?_
   refine AB (I8 ok _) ⟨rfl,trivial⟩ rfl ?_
   simp only [CH,↓Ab,ex,Ro,AC,A5,Ad,seval]
   repeat refine sd ?_
   refine ⟨q + 1,by omega,by omega,?_⟩
   refine Aj.fr [0] [] hx Ax Ak ?_ ?_
   ·simp only [A7,seval,mach]
   ·simp only [A7,seval]
    intro j hj
    by_cases h1:j=q
    ·rw [if_pos h1,if_pos Aa,h1]
    ·rw [if_neg h1]
     by_cases h2:j < q
     ·rw [if_pos h2,if_pos Aa]
     ·rw [if_neg h2,if_neg Aa]
  ·have hge:=of_decide_eq_false hge
   have hq:q=n:=Aa
   subst hq
   refine Aq.mk hx [0] [] (.sl 0 [] 0 q 32) [(0,.ar 32 q (fun j=>dg (B5 (f j))))] 1 Ak ?_ ?_ ?_ ⟨q,hn,hz,rfl,rfl,rfl⟩
   ·simp only [Lc,↓Ab,ex,Ro,AC,A5,Ad,seval]
   ·simp only [Lb,↓Ab,ex,Ro,AC,A5,Ad,seval]
   ·simp only [A7,seval]
    intro j hj
    rw [if_pos hj]
theorem IN (ok:OkM M) (f g:Nat→BitVec 64) (pc:BitVec 64) (hl:Bool) (e:BitVec 64) :
 Af M 199 [.imm (mach f g pc hl e)] [] 0 (SW f):=by
 refine Ac ok.k199 rfl fun x hx=>?_
 refine es 30 ?_
 simp only [Ael,Akm,mach,CH,↓Ab,ex,Ro,AC,A5,Ad,seval]
 refine Ag (σ:=Nat) (fun n=>n≤8192∧∀ j,n≤j→j < 8192→f j=0) (fun n=>fr 39 [(0,.imm (mach f g pc hl e)),(3,.int .i64 n)])
  (fun _=>[]) (fun _=>0) (fun n=>n) 8192 ⟨by omega,fun j h1 h2=>by omega⟩ ?_ ?_
 ·refine Aj.fr [] [] hx Ax Ak ?_ ?_
  ·simp only [A7,seval,mach]
  ·trivial
 ·intro n ⟨hn,hz⟩
  have tail:=PD ok hx f g pc hl e
  by_cases h0:n=0
  ·have d0:decide ((0:Int) < n)=false:=decide_eq_false Aa
   (refine es 5 ?_;simp (maxSteps:=2000000) only [d0,mach,CH,↓Ab,ex,Ro,AC,A5,Ad,seval])
   refine Bl.weak _ _ _ ?_ (tail n hn hz)
   refine Aj.fr [] [] hx Ax Ak ?_ ?_
   ·simp only [A7,seval,mach]
   ·trivial
  ·have d0:decide ((0:Int) < n)=true:=decide_eq_true Aa
   have w1:IntKind.i64.wrap ((n:Int) - 1)=((n - 1:Nat):Int):=A9
   (refine es 5 ?_;simp (maxSteps:=2000000) only [d0,w1,mach,CH,↓Ab,ex,Ro,AC,A5,Ad,seval])
   refine ⟨by omega,fun e1=>?_,fun _=>?_⟩
   ·have e1:=of_decide_eq_true e1
    have e2:f (n - 1)=0:=BitVec.eq_of_toNat_eq (by simpa using e1)
    (refine es 5 ?_;simp (maxSteps:=2000000) only [d0,w1,mach,CH,↓Ab,ex,Ro,AC,A5,Ad,seval])
    refine ⟨n - 1,⟨by omega,fun j h1 h2=>?_⟩,by omega,?_⟩
    ·by_cases h3:j=n - 1
     ·rw [h3,e2] <;> rfl
     ·exact hz j Aa h2
    ·refine Aj.fr [] [] hx Ax Ak ?_ ?_
     ·simp only [A7,seval,mach]
     ·trivial
   ·refine Bl.weak _ _ _ ?_ (tail n hn hz)
    refine Aj.fr [] [] hx Ax Ak ?_ ?_
    ·simp only [A7,seval,mach]
    ·trivial
def Bm (f:Nat→BitVec 64):Nat→Nat→Dg
 | 0,q=>if q < 8192 then B5 (f q) else Dg.zero
 | h + 1,q=>B2 (Bm f h (2 * q)) (Bm f h (2 * q + 1))
def lvs (f:Nat→BitVec 64) (n:Nat):List Dg:=(List.range n).map (fun j=>B5 (f j))
theorem He (f:Nat→BitVec 64) (n:Nat):(lvs f n).length=n:=by simp [lvs]
theorem QW (f:Nat→BitVec 64) (n j:Nat) (hj:j < n) (d:Dg):(lvs f n).getD j d=B5 (f j):=by
 simp [lvs,List.getD,List.getElem?_map,List.getElem?_range hj]
theorem Ia (f:Nat→BitVec 64) (n:Nat) (hn:n≤8192) (hz:∀ j,n≤j→j < 8192→f j=0):∀ h q,Jw (lvs f n) h q=Bm f h q
 | 0, q => by
   rw [Aeh,Bm]
   by_cases h1:q < n
   ·rw [QW _ _ _ h1,if_pos Aa]
   ·rw [DC (by rw [He];omega)]
    split
    ·rw [hz q Aa Aa,Sa]
    ·rfl
 | h + 1,q=>by rw [Uz,Bm,Ia f n hn hz h,Ia f n hn hz h]
theorem C9 {M:Seat} (ok:OkM M) (f g:Nat→BitVec 64) (pc:BitVec 64) (hl:Bool) (e:BitVec 64) :
 Af M 51 [.imm (mach f g pc hl e)] [] 0 (Q3 (Ao (dg (Bm f 13 0)) .nili) [] 0):=by
 refine Ac ok.k51 rfl fun x hx=>?_
 refine es 30 ?_
 simp only [f51,c51,AH,AN,CH,↓Ab,ex,Ro,AC,A5,Ad,seval]
 refine B3 (IN ok f g pc hl e) False [] [] List.nodup_nil Bu rfl Bu (by simp only [A7,Bd,mach,seval]) trivial ?_
 rintro v H' k' ⟨n,hn,hz,rfl,rfl,rfl⟩
 refine ⟨⟨by omega,fun h=>h.elim⟩,?_⟩
 have hnum:Bc [] 80 1=[80]:=rfl
 simp only [hnum,LN,V.ren,AQ,A4,BO,D3,YE,List.append_nil,Vl,ne_eq,CD,seval]
 have hl13:(lvs f n).length≤2 ^ 13:=by rw [He];omega
 refine GQ [80] (Tz ok 13 Aa (lvs f n) hl13) ⟨rfl,?_,trivial⟩ rfl ?_
 ·simp only [row,He,A7,seval]
  intro j hj
  exact (QW _ _ _ hj _).symm
 simp only [Ia f n hn hz,A4,Ao,CH,↓Ab,ex,Ro,AC,A5,Ad,seval,LN,V.ren,AQ,D3,YE,List.append_nil]
 refine Aq.mk hx [] [] (Ao (dg (Bm f 13 0)) .nili) [] 0 Ak ?_ ?_ trivial ⟨rfl,rfl,rfl⟩
 ·simp only [Lc,↓Ab,ex,Ro,AC,A5,Ad,seval]
  rfl
 ·simp only [Lb,↓Ab,ex,Ro,AC,A5,Ad,seval]
theorem ED {M:Seat} (ok:OkM M) (f g:Nat→BitVec 64) (pc:BitVec 64) (hl:Bool) (e:BitVec 64) (i:Nat) (hi:i < 8192) :
 Af M 50 [.imm (mach f g pc hl e),.int .u64 i] [] 0 (Q3 (Ao (.st 2 (.fcons 0 (W (f i)) (.fcons 1 (.sl 0 [] 0 13 32) .fnil))) .nili) [(0,.ar 32 13 (fun h=>dg (Bm f h ((i / 2 ^ h) ^^^ 1))))] 1):=by
 refine Ac ok.k50 rfl fun x hx=>?_
 refine es 30 ?_
 have d1:decide ((8192:Int)≤i)=false:=decide_eq_false Aa
 simp only [f50,c50,d1,AH,AN,CH,↓Ab,ex,Ro,AC,A5,Ad,seval]
 refine B3 (IN ok f g pc hl e) False [] [] List.nodup_nil Bu rfl Bu (by simp only [A7,Bd,mach,seval]) trivial ?_
 rintro v H' k' ⟨n,hn,hz,rfl,rfl,rfl⟩
 refine ⟨⟨by omega,fun h=>h.elim⟩,?_⟩
 have hnum:Bc [] 144 1=[144]:=rfl
 have w1:IntKind.i64.wrap (i:Int)=i:=AI Aa
 simp only [hnum,w1,LN,V.ren,AQ,A4,BO,D3,YE,List.append_nil,Vl,ne_eq,CD,seval]
 have hl13:(lvs f n).length≤2 ^ 13:=by rw [He];omega
 refine B3 (TU ok 13 Aa Aa (lvs f n) hl13 i hi) False [] [144] List.nodup_nil Bu rfl Bu ⟨rfl,?_,rfl,trivial⟩ trivial ?_
 ·simp only [row,He,A7,seval]
  intro j hj
  exact (QW _ _ _ hj _).symm
 rintro v H' k' ⟨rfl,rfl,rfl⟩
 refine ⟨⟨by omega,fun h=>h.elim⟩,?_⟩
 have hnum2:Bc [] 192 1=[192]:=rfl
 simp only [hnum2,Ao,Dp,Ia f n hn hz,LN,V.ren,AQ,A4,BO,D3,YE,List.append_nil,Vl,ne_eq,CD,seval]
 simp only [mach,CH,↓Ab,ex,Ro,AC,A5,Ad,seval]
 repeat refine sd ?_
 refine Aq.mk hx [192] [] (Ao (.st 2 (.fcons 0 (W (f i)) (.fcons 1 (.sl 0 [] 0 13 32) .fnil))) .nili) [(0,.ar 32 13 (fun h=>dg (Bm f h ((i / 2 ^ h) ^^^ 1))))] 1 Ak ?_ ?_ ?_ ⟨rfl,rfl,rfl⟩
 ·simp only [Lc,↓Ab,ex,Ro,AC,A5,Ad,seval]
 ·simp only [Lb,↓Ab,ex,Ro,AC,A5,Ad,seval]
 ·simp only [A7,seval]
theorem MB (H:Hp) (m z:List Nat) (l:List Dg) (n:Nat) (hn:l.length=n):Bd H m z (row l) (.lst 32 n (Gc l)):=by
 subst hn;exact K9 _ _ _ _
theorem MZ (ts:List Nat):AH true (.iface ts) .nili .nili=True:=by simp [AH]
theorem NI (ts:List Nat):AN (.iface ts) .nili .nili=true:=rfl
theorem Vp (c:Bool) (ts:List Nat) (t:Nat) (v:V):AH c (.iface ts) (.ifc t v) .nili=True:=by simp [AH]
theorem Xu (ts:List Nat) (t:Nat) (v:V):AN (.iface ts) (.ifc t v) .nili=false:=by cases v <;> rfl
theorem VC (c:Bool) (i:Nat) (p:List Stp):AH c .ptr (.ptr i p) .nilp=True:=by simp [AH]
theorem WU (i:Nat) (p:List Stp):AN .ptr (.ptr i p) .nilp=false:=rfl
theorem RH (c:Bool) (v:V):AH c .ptr (.imm v) .nilp=True:=by simp [AH]
theorem Q9 (v:V):AN .ptr (.imm v) .nilp=false:=rfl
def Dx:=(Apo @LQ @La0 @Nat.testBit.eq_1 @bne_self_eq_false.{0} @Vp @RH @MZ @VC @Xu @Q9 @NI @WU)
theorem EI {M:Seat} (ok:OkM M) (root:Dg) (i:Nat) (hi:i < 8192) (v:BitVec 64) (p:List Dg) (hp:p.length=13) :
 Af M 53 [dg root,.int .u64 i,.st 2 (.fcons 0 (W v) (.fcons 1 (.lst 32 13 (Gc p)) .fnil))] [] 0 (Q3 (Ao (.bool (decide (BZ i (B5 v) p 13=root))) .nili) [] 0):=by
 refine Ac ok.k53 rfl fun x hx=>?_
 refine es 30 ?_
 have d1:decide ((8192:Int)≤i)=false:=decide_eq_false Aa
 have w1:IntKind.i64.wrap (i:Int)=i:=AI Aa
 have d2:(!decide ((13:Int)=13))=false:=rfl
 simp only [f53,c53,d1,d2,w1,CH,↓Ab,ex,Ro,AC,A5,Ad,seval]
 refine ⟨_,_,AB (I8 ok v) ⟨rfl,trivial⟩ rfl ⟨rfl,rfl⟩,?_⟩
 simp only [CH,↓Ab,ex,Ro,AC,A5,Ad,seval]
 have hf:=MA ok i (B5 v) p Aa (by rw [hp];omega)
 rw [hp] at hf
 refine ⟨_,_,AB hf ⟨rfl,(AJ _ _ _ _ _).mpr rfl,MB _ _ _ _ _ hp,trivial⟩ rfl ⟨rfl,rfl⟩,?_⟩
 by_cases he:BZ i (B5 v) p 13=root
 ·have d3:=decide_eq_true he
  simp (maxSteps:=2000000) only [Ao,MZ,NI,d3,CH,↓Ab,ex,Ro,AC,A5,Ad,seval]
  refine Aq.mk hx [] [] (Ao (.bool true) .nili) [] 0 Ak ?_ ?_ trivial ⟨rfl,rfl,rfl⟩
  ·simp only [Lc,↓Ab,ex,Ro,AC,A5,Ad,seval]
  ·simp only [Lb,↓Ab,ex,Ro,AC,A5,Ad,seval]
 ·have d3:=decide_eq_false he
  simp (maxSteps:=2000000) only [Ao,MZ,NI,d3,CH,↓Ab,ex,Ro,AC,A5,Ad,seval]
  refine Aq.mk hx [] [] (Ao (.bool false) .nili) [] 0 Ak ?_ ?_ trivial ⟨rfl,rfl,rfl⟩
  ·simp only [Lc,↓Ab,ex,Ro,AC,A5,Ad,seval]
  ·simp only [Lb,↓Ab,ex,Ro,AC,A5,Ad,seval]
theorem Qq {M:Seat} (ok:OkM M) (root:Dg) (i:Nat) (hi:i < 8192) (v:BitVec 64) (p:List Dg) (hp:p.length=13) (hh:BZ i (B5 v) p 13=root) (u:BitVec 64) :
 Af M 52 [dg root,.int .u64 i,.st 2 (.fcons 0 (W v) (.fcons 1 (.lst 32 13 (Gc p)) .fnil)),W u] [] 0 (Q3 (Ao (dg (BZ i (B5 u) p 13)) .nili) [] 0):=by
 refine Ac ok.k52 rfl fun x hx=>?_
 refine es 30 ?_
 have w1:IntKind.i64.wrap (i:Int)=i:=AI Aa
 simp only [f52,c52,w1,CH,↓Ab,ex,Ro,AC,A5,Ad,seval]
 have hd:=EI ok root i hi v p hp
 rw [decide_eq_true hh] at hd
 refine AB hd ⟨(AJ _ _ _ _ _).mpr rfl,rfl,?_,trivial⟩ rfl ?_
 ·simp only [A7,seval]
 simp (maxSteps:=2000000) only [Ao,AH,AN,CH,↓Ab,ex,Ro,AC,A5,Ad,seval]
 refine ⟨_,_,AB (I8 ok u) ⟨rfl,trivial⟩ rfl ⟨rfl,rfl⟩,?_⟩
 simp only [CH,↓Ab,ex,Ro,AC,A5,Ad,seval]
 have hf:=MA ok i (B5 u) p Aa (by rw [hp];omega)
 rw [hp] at hf
 refine ⟨_,_,AB hf ⟨rfl,(AJ _ _ _ _ _).mpr rfl,MB _ _ _ _ _ hp,trivial⟩ rfl ⟨rfl,rfl⟩,?_⟩
 simp (maxSteps:=2000000) only [Ao,AH,AN,CH,↓Ab,ex,Ro,AC,A5,Ad,seval]
 refine Aq.mk hx [] [] (Ao (dg (BZ i (B5 u) p 13)) .nili) [] 0 Ak ?_ ?_ trivial ⟨rfl,rfl,rfl⟩
 ·simp only [Lc,↓Ab,ex,Ro,AC,A5,Ad,seval]
  rfl
 ·simp only [Lb,↓Ab,ex,Ro,AC,A5,Ad,seval]
end Mv
