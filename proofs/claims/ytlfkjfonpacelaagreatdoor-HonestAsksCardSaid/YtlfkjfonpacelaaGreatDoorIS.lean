/- A part. -/
import Derived.Test.YtlfkjfonpacelaaGreatDoorIR
set_option linter.all false
set_option maxRecDepth 20000
set_option maxHeartbeats 4000000
namespace Mv
open Go
variable {M:Seat}
def Hb (l:List Dg) (h q:Nat):Dg:=(BX l h).getD q (A4 h)
theorem Sz (l:List Dg) (q:Nat):Hb l 0 q=l.getD q Dg.zero:=rfl
theorem IZ (l:List Dg) (h q:Nat):Hb l (h + 1) q=BP (Hb l h (2 * q)) (Hb l h (2 * q + 1)):=by
 unfold Hb;by_cases hq:q < ((BX l h).length + 1) / 2
 ·rw [BX,Aih _ _ _ _ hq];rfl
 ·rw [ED (by rw [BX,J2];omega),ED Aa,ED Aa];rfl
theorem UI (l:List Dg) (hl:0 < l.length):∀ h,0 < (BX l h).length
 | 0=>hl
 | h + 1 => by
   have:=UI l hl h;rw [BX,J2];omega
theorem Ch (m:List Nat) (l:List Dg) (h:Nat):(Gp l h).ren m=Gp l h:=by
 rcases D6 l h with e | ⟨e,_⟩ <;> rw [e] <;> rfl
theorem LD (H:Hp) (m z:List Nat) (l:List Dg):Bz H m z (row l) (row l):=by
 simp only [row,Bz,Ay,true_and];exact fun j _=>(AJ _ _ _ _ _).mpr rfl
theorem GR (ok:OkM M) (d:Nat) (hd:d≤16) (l:List Dg) (hl:l.length≤2 ^ d) :
 Ae M 200 [.int .i64 d,row l] [] 0 (Q3 (Ai (dg (Hb l d 0)) .nili) [] 0):=by
 refine Ab ok.k200 rfl fun x hx=>?_;refine es 30 ?_;simp only [f200,Aqy,D3,↓Ac,ex,Ro,Bd,Br,Af,seval];refine Cq (JQ ok d hd l hl) False [] [] List.nodup_nil B9 rfl B9 ⟨rfl,LD _ _ _ _,trivial⟩ trivial ?_;rintro v H' k' ⟨rfl,rfl,rfl⟩;refine ⟨⟨by omega,fun h=>h.elim⟩,?_⟩;have hnum:B8 [] 64 1=[64]:=rfl;simp only [hnum,B0,LN,V.ren,AU,AB,BZ,Ch,Lag,List.append_nil,B3,ne_eq,B4,seval];by_cases h0:l.length=0
 ·have d0:decide ((l.length:Int)=0)=true:=by rw [h0];rfl
  have hn:Hb l d 0=A4 d:=ED (by have:=Oj l d;omega) _;simp (maxSteps:=2000000) only [row,AR,AX,d0,D3,↓Ac,ex,Ro,Bd,Br,Af,seval];repeat refine sd ?_
  simp only [hn];refine Ap.mk hx [] [] (Ai (dg (A4 d)) .nili) [] 0 Al ?_ ?_ trivial ⟨rfl,rfl,rfl⟩
  ·simp only [UY,↓Ac,ex,Ro,Bd,Br,Af,seval];rfl
  ·simp only [Vw,↓Ac,ex,Ro,Bd,Br,Af,seval]
 ·have d0:decide ((l.length:Int)=0)=false:=decide_eq_false Aa;have hpos:=UI l Aa d;rcases D6 l d with hv | ⟨hv,hL⟩
  ·simp (maxSteps:=2000000) only [row,AR,AX,d0,Fk,G2,IC,hv,D3,↓Ac,ex,Ro,Bd,Br,Af,seval];repeat refine sd ?_
   have hn:(BX l d).getD 0 Dg.zero=Hb l d 0:=F2 hpos _ _;simp only [hn];refine Ap.mk hx [] [] (Ai (dg (Hb l d 0)) .nili) [] 0 Al ?_ ?_ trivial ⟨rfl,rfl,rfl⟩
   ·simp only [UY,↓Ac,ex,Ro,Bd,Br,Af,seval];rfl
   ·simp only [Vw,↓Ac,ex,Ro,Bd,Br,Af,seval]
  ·rw [hL] at hpos;simp at hpos
theorem Ait {g:Nat} (h:g < 4611686018427387904):IntKind.i64.wrap ((g:Int).tdiv 2)=((g / 2:Nat):Int):=by
 rw [Int.tdiv_eq_ediv_of_nonneg Aa,Bu Aa];omega
theorem Aiv (g:Nat):decide ((g:Int).tmod 2=0)=decide (g % 2=0):=by
 rw [decide_eq_decide,Int.tmod_eq_emod_of_nonneg Aa];omega
theorem UA (i q:Nat):i / 2 ^ (q + 1)=i / 2 ^ q / 2:=by rw [Nat.pow_succ,Nat.div_div_eq_div_mul]
def D7 (i:Nat) (x:Dg) (p:List Dg):Nat→Dg
 | 0=>x
 | q + 1=>if (i / 2 ^ q) % 2=0 then BP (D7 i x p q) (p.getD q Dg.zero) else BP (p.getD q Dg.zero) (D7 i x p q)
theorem N8 (ok:OkM M) (i:Nat) (v:Dg) (p:List Dg) (hp:p.length≤16) (hi:i < 2 ^ p.length) :
 Ae M 201 [.int .i64 i,dg v,row p] [] 0 (Q3 (Ai (dg (D7 i v p p.length)) .nili) [] 0):=by
 have h16:2 ^ p.length≤2 ^ 16:=Nat.pow_le_pow_right Aa hp;refine Ab ok.k201 rfl fun x hx=>?_;refine es 30 ?_;have d1:decide ((16:Int) < p.length)=false:=decide_eq_false Aa;have d2:decide ((i:Int) < 0)=false:=decide_eq_false Aa;have w0:=Aa0 hp;have d3:decide (((2 ^ p.length:Nat):Int)≤i)=false:=decide_eq_false Aa;simp (maxSteps:=2000000) only [At2,Apg,row,d1,d2,d3,w0,D3,↓Ac,ex,Ro,Bd,Br,Af,seval];repeat refine sd ?_
 refine Am (σ:=Nat) (fun q=>q≤p.length) (fun q=>fr 45 [(0,.int .i64 (i / 2 ^ q:Nat)),(4,.ptr 0 []),(6,.ptr 1 []),(7,.nili),(26,.lst 32 p.length (Fw p)),(27,.int .i64 p.length),(28,.int .i64 q)])
  (fun q=>[(0,dg (D7 i v p q)),(1,dg Dg.zero)]) (fun _=>2) (fun q=>p.length - q) 0 Aa ?_ ?_
 ·refine Ak.fr [0,16] [] hx AG Al ?_ ?_
  ·simp only [BE,seval,Nat.pow_zero,Nat.div_one]
  ·simp only [BE,seval,dg0];rfl
 ·intro q hq;have hle:i / 2 ^ q≤i:=Nat.div_le_self _ _;have w1:IntKind.i64.wrap (((i / 2 ^ q:Nat):Int).tdiv 2)=((i / 2 ^ (q + 1):Nat):Int):=by rw [Ait Aa,UA]
  have w2:IntKind.i64.wrap ((q:Int) + 1)=((q + 1:Nat):Int):=AW;by_cases he:(i / 2 ^ q) % 2=0
  ·have d4:decide (((i / 2 ^ q:Nat):Int).tmod 2=0)=true:=by rw [Aiv];exact decide_eq_true he
   (refine es 40 ?_;simp (maxSteps:=2000000) only [d4,w1,w2,D3,↓Ac,ex,Ro,Bd,Br,Af,seval]);refine ⟨fun hlt=>?_,fun hge=>?_⟩
   ·have hlt:=of_decide_eq_true hlt;repeat refine sd ?_
    refine AZ (BB ok _ _) ⟨(AJ _ _ _ _ _).mpr rfl,(AJ _ _ _ _ _).mpr rfl,trivial⟩ rfl ?_;simp only [D3,↓Ac,ex,Ro,Bd,Br,Af,seval];repeat refine sd ?_
    refine ⟨q + 1,by omega,by omega,?_⟩;refine Ak.fr [0,1] [] hx AG Al ?_ ?_
    ·simp only [BE,seval]
    ·simp only [BE,seval,D7,if_pos he]
   ·have hge:=of_decide_eq_false hge;have hqe:q=p.length:=Aa;subst hqe;refine Ap.mk hx [] [] (Ai (dg (D7 i v p p.length)) .nili) [] 0 Al ?_ ?_ trivial ⟨rfl,rfl,rfl⟩
    ·simp only [UY,↓Ac,ex,Ro,Bd,Br,Af,seval];rfl
    ·simp only [Vw,↓Ac,ex,Ro,Bd,Br,Af,seval]
  ·have d4:decide (((i / 2 ^ q:Nat):Int).tmod 2=0)=false:=by rw [Aiv];exact decide_eq_false he
   (refine es 40 ?_;simp (maxSteps:=2000000) only [d4,w1,w2,D3,↓Ac,ex,Ro,Bd,Br,Af,seval]);refine ⟨fun hlt=>?_,fun hge=>?_⟩
   ·have hlt:=of_decide_eq_true hlt;repeat refine sd ?_
    refine AZ (BB ok _ _) ⟨(AJ _ _ _ _ _).mpr rfl,(AJ _ _ _ _ _).mpr rfl,trivial⟩ rfl ?_;simp only [D3,↓Ac,ex,Ro,Bd,Br,Af,seval];repeat refine sd ?_
    refine ⟨q + 1,by omega,by omega,?_⟩;refine Ak.fr [0,1] [] hx AG Al ?_ ?_
    ·simp only [BE,seval]
    ·simp only [BE,seval,D7,if_neg he]
   ·have hge:=of_decide_eq_false hge;have hqe:q=p.length:=Aa;subst hqe;refine Ap.mk hx [] [] (Ai (dg (D7 i v p p.length)) .nili) [] 0 Al ?_ ?_ trivial ⟨rfl,rfl,rfl⟩
    ·simp only [UY,↓Ac,ex,Ro,Bd,Br,Af,seval];rfl
    ·simp only [Vw,↓Ac,ex,Ro,Bd,Br,Af,seval]
def Ef (l:List Dg) (i h:Nat):Dg:=Hb l h ((i / 2 ^ h) ^^^ 1)
theorem Acq {f:Nat→Dg} {q:Nat} {v:Dg} (hu:f q=v) (i:Nat) (hi:i < q + 1):(if i < q then dg (f i) else if i - q=0 then dg v else V.ar 1 32 (fun _=>V.int .u8 0))=dg (f i):=by
 by_cases h:i < q
 ·rw [if_pos h]
 ·have:i=q:=Aa;subst this;rw [if_neg h,if_pos Aa,hu]
theorem Aat {f:Nat→Dg} {v:Dg} (hu:f 0=v) (i:Nat) (hi:i < 1):(if i=0 then dg v else V.ar 1 32 (fun _=>V.int .u8 0))=dg (f i):=by
 have:i=0:=Aa;subst this;rw [if_pos rfl,hu]
theorem Ard {g:Nat} (h:g < 4611686018427387904):IntKind.i64.wrap (((BitVec.ofInt IntKind.i64.bits (g:Int) ^^^ BitVec.ofInt IntKind.i64.bits 1).toNat:Nat):Int)=((g ^^^ 1:Nat):Int):=by
 show IntKind.i64.wrap (((BitVec.ofInt 64 (g:Int) ^^^ BitVec.ofInt 64 ((1:Nat):Int)).toNat:Nat):Int)=_;have h2:g ^^^ 1 < 2 ^ 63:=Nat.xor_lt_two_pow Aa Aa;rw [CF,CF,BitVec.toNat_xor,BitVec.toNat_ofNat,BitVec.toNat_ofNat,Nat.mod_eq_of_lt Aa,Nat.mod_eq_of_lt Aa];rw [Bu Aa]
theorem WH (ok:OkM M) (d:Nat) (hd0:0 < d) (hd:d≤16) (l:List Dg) (hl:l.length≤2 ^ d) (i:Nat) (hi:i < 2 ^ d) :
 Ae M 198 [.int .i64 d,row l,.int .i64 i] [] 0 (Q3 (Ai (.sl 0 [] 0 d 32) .nili) [(0,.ar 32 d (fun h=>dg (Ef l i h)))] 1):=by
 have h16:2 ^ d≤2 ^ 16:=Nat.pow_le_pow_right Aa hd;refine Ab ok.k198 rfl fun x hx=>?_;refine es 30 ?_;simp only [f198,Ar8,D3,↓Ac,ex,Ro,Bd,Br,Af,seval];refine Cq (JQ ok d hd l hl) False [] [] List.nodup_nil B9 rfl B9 ⟨rfl,LD _ _ _ _,trivial⟩ trivial ?_;rintro v H' k' ⟨rfl,rfl,rfl⟩;refine ⟨⟨by omega,fun h=>h.elim⟩,?_⟩;have hnum:B8 [] 64 1=[64]:=rfl;simp only [hnum,B0,LN,V.ren,AU,AB,BZ,Ch,Lag,List.append_nil,B3,ne_eq,B4,seval];have d1:decide ((i:Int) < 0)=false:=decide_eq_false Aa;have w0:=Aa0 hd;have d3:decide (((2 ^ d:Nat):Int)≤i)=false:=decide_eq_false Aa;simp (maxSteps:=2000000) only [AR,AX,d1,d3,w0,D3,↓Ac,ex,Ro,Bd,Br,Af,seval];repeat refine sd ?_
 refine Am (σ:=Nat) (fun h=>h≤d) (fun h=>fr 65 [(2,.int .i64 (i / 2 ^ h:Nat)),(8,.sl 1 [] 0 (d + 1) 1),(9,.ptr 0 []),(11,if h=0 then .nils else .sl 2 [] 0 h 32),(34,.int .i64 d),(35,.int .i64 h)])
  (fun h=>(0,.ar 32 17 (fun j=>dg (A4 j))) :: (1,.ar 1 (d + 1) (Gp l)) :: (if h=0 then [] else [(2,.ar 32 h (fun j=>dg (Ef l i j)))])) (fun _=>3) (fun h=>d - h) 0 Aa ?_ ?_
 ·refine Ak.fr [144,64] [] hx AG Al ?_ ?_
  ·simp only [BE,seval,Nat.pow_zero,Nat.div_one]
  ·simp only [BE,seval];exact fun _ _=>B6 _ _ _ _ _
 ·intro h hh;have hle:i / 2 ^ h≤i:=Nat.div_le_self _ _;have w1:IntKind.i64.wrap (((i / 2 ^ h:Nat):Int).tdiv 2)=((i / 2 ^ (h + 1):Nat):Int):=by rw [Ait Aa,UA]
  have w2:IntKind.i64.wrap ((h:Int) + 1)=((h + 1:Nat):Int):=AW;have w4:=Ard (g:=i / 2 ^ h) Aa;by_cases hhd:h=d
  ·have d0:decide ((h:Int) < d)=false:=decide_eq_false Aa;have hne:h ≠ 0:=Aa;simp only [if_neg hne];(refine es 18 ?_;simp (maxSteps:=2000000) only [d0,D3,↓Ac,ex,Ro,Bd,Br,Af,seval]);subst hhd;refine Ap.mk hx [2] [] (Ai (.sl 0 [] 0 h 32) .nili) [(0,.ar 32 h (fun j=>dg (Ef l i j)))] 1 Al ?_ ?_ ?_ ⟨rfl,rfl,rfl⟩
   ·simp only [UY,↓Ac,ex,Ro,Bd,Br,Af,seval]
   ·simp only [Vw,↓Ac,ex,Ro,Bd,Br,Af,seval]
   ·simp only [BE,seval]
  have d0:decide ((h:Int) < d)=true:=decide_eq_true Aa;rcases D6 l h with hv | ⟨hv,hL⟩
  ·by_cases hk:(i / 2 ^ h) ^^^ 1 < (BX l h).length
   ·have d5:decide ((((i / 2 ^ h) ^^^ 1:Nat):Int) < (BX l h).length)=true:=decide_eq_true Aa;(refine es 18 ?_;simp (maxSteps:=2000000) only [d0,w1,w2,w4,d5,hv,Fk,G2,IC,D3,↓Ac,ex,Ro,Bd,Br,Af,seval]);refine U9 (fr 65 [(2,.int .i64 (i / 2 ^ h:Nat)),(8,.sl 1 [] 0 (d + 1) 1),(9,.ptr 0 []),(11,if h=0 then .nils else .sl 2 [] 0 h 32),(13,.ptr 3 []),(34,.int .i64 d),(35,.int .i64 h)])
     ((3,dg (Ef l i h)) :: (0,.ar 32 17 (fun j=>dg (A4 j))) :: (1,.ar 1 (d + 1) (Gp l)) :: (if h=0 then [] else [(2,.ar 32 h (fun j=>dg (Ef l i j)))])) 4 ?_
     (fun key=>⟨by omega,by omega,by omega,by omega,by omega,by omega,by omega,AV.weak _ _ _ ?_ key⟩)
    ·by_cases h0:h=0
     ·subst h0;simp only [if_true];(refine es 40 ?_;simp (maxSteps:=2000000) only [w1,w2,D3,↓Ac,ex,Ro,Bd,Br,Af,seval]);repeat refine sd ?_
      refine ⟨0 + 1,by omega,by omega,?_⟩;refine Ak.fr [0,1,52] [] hx AG Al ?_ ?_
      ·simp only [if_neg (Nat.add_one_ne_zero 0),BE,seval];rfl
      ·simp only [if_neg (Nat.add_one_ne_zero 0),BE,seval];exact ⟨fun _ _=>B6 _ _ _ _ _,fun j hj=>by rw [Aat (f:=Ef l i) rfl j hj];exact (AJ _ _ _ _ _).mpr rfl⟩
     ·simp only [if_neg h0];(refine es 40 ?_;simp (maxSteps:=2000000) only [w1,w2,D3,↓Ac,ex,Ro,Bd,Br,Af,seval]);repeat refine sd ?_
      refine ⟨h + 1,by omega,by omega,?_⟩;refine Ak.fr [0,1,52] [] hx AG Al ?_ ?_
      ·simp only [if_neg (Nat.add_one_ne_zero h),BE,seval]
      ·simp only [if_neg (Nat.add_one_ne_zero h),BE,seval];exact ⟨fun _ _=>B6 _ _ _ _ _,fun j hj=>by rw [Acq (f:=Ef l i) rfl j hj];exact (AJ _ _ _ _ _).mpr rfl⟩
    ·refine Ak.fr [0,1,2,99] [] hx AG Al ?_ ?_
     ·simp only [BE,seval];by_cases h0:h=0
      ·simp only [if_pos h0,BE,seval]
      ·simp only [if_neg h0,BE,seval]
     ·simp only [BE,seval];refine ⟨F2 hk _ _,fun _ _=>B6 _ _ _ _ _,?_⟩;by_cases h0:h=0
      ·simp only [if_pos h0,BE,seval]
      ·simp only [if_neg h0,BE,seval]
   ·have d5:decide ((((i / 2 ^ h) ^^^ 1:Nat):Int) < (BX l h).length)=false:=decide_eq_false Aa;(refine es 18 ?_;simp (maxSteps:=2000000) only [d0,w1,w2,w4,d5,hv,Fk,G2,IC,D3,↓Ac,ex,Ro,Bd,Br,Af,seval]);refine U9 (fr 65 [(2,.int .i64 (i / 2 ^ h:Nat)),(8,.sl 1 [] 0 (d + 1) 1),(9,.ptr 0 []),(11,if h=0 then .nils else .sl 2 [] 0 h 32),(13,.ptr 3 []),(34,.int .i64 d),(35,.int .i64 h)])
     ((3,dg (Ef l i h)) :: (0,.ar 32 17 (fun j=>dg (A4 j))) :: (1,.ar 1 (d + 1) (Gp l)) :: (if h=0 then [] else [(2,.ar 32 h (fun j=>dg (Ef l i j)))])) 4 ?_
     (fun key=>⟨by omega,by omega,by omega,by omega,AV.weak _ _ _ ?_ key⟩)
    ·by_cases h0:h=0
     ·subst h0;simp only [if_true];(refine es 40 ?_;simp (maxSteps:=2000000) only [w1,w2,D3,↓Ac,ex,Ro,Bd,Br,Af,seval]);repeat refine sd ?_
      refine ⟨0 + 1,by omega,by omega,?_⟩;refine Ak.fr [0,1,52] [] hx AG Al ?_ ?_
      ·simp only [if_neg (Nat.add_one_ne_zero 0),BE,seval];rfl
      ·simp only [if_neg (Nat.add_one_ne_zero 0),BE,seval];exact ⟨fun _ _=>B6 _ _ _ _ _,fun j hj=>by rw [Aat (f:=Ef l i) rfl j hj];exact (AJ _ _ _ _ _).mpr rfl⟩
     ·simp only [if_neg h0];(refine es 40 ?_;simp (maxSteps:=2000000) only [w1,w2,D3,↓Ac,ex,Ro,Bd,Br,Af,seval]);repeat refine sd ?_
      refine ⟨h + 1,by omega,by omega,?_⟩;refine Ak.fr [0,1,52] [] hx AG Al ?_ ?_
      ·simp only [if_neg (Nat.add_one_ne_zero h),BE,seval]
      ·simp only [if_neg (Nat.add_one_ne_zero h),BE,seval];exact ⟨fun _ _=>B6 _ _ _ _ _,fun j hj=>by rw [Acq (f:=Ef l i) rfl j hj];exact (AJ _ _ _ _ _).mpr rfl⟩
    ·refine Ak.fr [0,1,2,99] [] hx AG Al ?_ ?_
     ·simp only [BE,seval];by_cases h0:h=0
      ·simp only [if_pos h0,BE,seval]
      ·simp only [if_neg h0,BE,seval]
     ·simp only [BE,seval];refine ⟨(ED Aa _).symm,fun _ _=>B6 _ _ _ _ _,?_⟩;by_cases h0:h=0
      ·simp only [if_pos h0,BE,seval]
      ·simp only [if_neg h0,BE,seval]
  ·have d5:decide ((((i / 2 ^ h) ^^^ 1:Nat):Int) < 0)=false:=decide_eq_false Aa;(refine es 18 ?_;simp (maxSteps:=2000000) only [d0,w1,w2,w4,d5,hv,Fk,G2,IC,D3,↓Ac,ex,Ro,Bd,Br,Af,seval]);refine U9 (fr 65 [(2,.int .i64 (i / 2 ^ h:Nat)),(8,.sl 1 [] 0 (d + 1) 1),(9,.ptr 0 []),(11,if h=0 then .nils else .sl 2 [] 0 h 32),(13,.ptr 3 []),(34,.int .i64 d),(35,.int .i64 h)])
    ((3,dg (Ef l i h)) :: (0,.ar 32 17 (fun j=>dg (A4 j))) :: (1,.ar 1 (d + 1) (Gp l)) :: (if h=0 then [] else [(2,.ar 32 h (fun j=>dg (Ef l i j)))])) 4 ?_
    (fun key=>⟨by omega,by omega,by omega,by omega,AV.weak _ _ _ ?_ key⟩)
   ·by_cases h0:h=0
    ·subst h0;simp only [if_true];(refine es 40 ?_;simp (maxSteps:=2000000) only [w1,w2,D3,↓Ac,ex,Ro,Bd,Br,Af,seval]);repeat refine sd ?_
     refine ⟨0 + 1,by omega,by omega,?_⟩;refine Ak.fr [0,1,52] [] hx AG Al ?_ ?_
     ·simp only [if_neg (Nat.add_one_ne_zero 0),BE,seval];rfl
     ·simp only [if_neg (Nat.add_one_ne_zero 0),BE,seval];exact ⟨fun _ _=>B6 _ _ _ _ _,fun j hj=>by rw [Aat (f:=Ef l i) rfl j hj];exact (AJ _ _ _ _ _).mpr rfl⟩
    ·simp only [if_neg h0];(refine es 40 ?_;simp (maxSteps:=2000000) only [w1,w2,D3,↓Ac,ex,Ro,Bd,Br,Af,seval]);repeat refine sd ?_
     refine ⟨h + 1,by omega,by omega,?_⟩;refine Ak.fr [0,1,52] [] hx AG Al ?_ ?_
     ·simp only [if_neg (Nat.add_one_ne_zero h),BE,seval]
     ·simp only [if_neg (Nat.add_one_ne_zero h),BE,seval];exact ⟨fun _ _=>B6 _ _ _ _ _,fun j hj=>by rw [Acq (f:=Ef l i) rfl j hj];exact (AJ _ _ _ _ _).mpr rfl⟩
   ·refine Ak.fr [0,1,2,99] [] hx AG Al ?_ ?_
    ·simp only [BE,seval];by_cases h0:h=0
     ·simp only [if_pos h0,BE,seval]
     ·simp only [if_neg h0,BE,seval]
    ·simp only [BE,seval];refine ⟨by rw [Ef,Hb,hL];rfl,fun _ _=>B6 _ _ _ _ _,?_⟩;by_cases h0:h=0
     ·simp only [if_pos h0,BE,seval]
     ·simp only [if_neg h0,BE,seval]
def byt (v:Int) (i:Nat):Int:=(v / 2 ^ (56 - 8 * i)) % 256
theorem Md {M:Seat} (hc:Ar M 312 PH=true) (L o n:Nat) (g:Nat→Int) (v:Int) (hv:0≤v) (hn:8≤n) (hL:o + n≤L) :
 Ae M 312 [.sl 0 [] o n 1,.int .u64 v] [(0,.ar 1 L fun j=>.int .u8 (g j))] 1 (Q3 (.tup .fnil) [(0,.ar 1 L (fun j=>.int .u8 (if o≤j∧j < o + 8 then byt v (j - o) else g j)))] 1):=by
 refine Ab hc rfl fun x hx=>?_;refine es 30 ?_;simp only [PH,Alm,FU,↓Ac,ex,Ro,Bd,Br,Af,Nat.reduceLT,Int.reduceLE,Int.reduceLT,Nat.reducePow,Nat.reduceAnd,Nat.reduceOr,Nat.reduceShiftRight,Int.reduceToNat,reduceCtorEq,Nat.reduceAdd,Nat.reduceMul,Nat.reduceSub,Nat.reduceBEq,Nat.reduceEqDiff];refine Am (σ:=Nat) (fun i=>i≤8) (fun i=>fr 18 [(0,.sl 0 [] o n 1),(1,.int .u64 v),(5,.int .i64 i)])
  (fun i=>[(0,.ar 1 L (fun j=>.int .u8 (if o≤j∧j < o + i then byt v (j - o) else g j)))]) (fun _=>1) (fun i=>8 - i) 0 Aa ?_ ?_
 ·refine Ak.fr [0] [] hx AG Al ?_ ?_
  ·simp only [MF,Nat.reduceLT,reduceCtorEq,Nat.reduceEqDiff];rfl
  ·simp only [MF,Nat.reduceLT,reduceCtorEq,Nat.reduceEqDiff];intro i hi;rw [if_neg Aa]
 ·intro i hi;refine es 30 ?_;simp only [FU,↓Ac,ex,Ro,Bd,Br,Af,Nat.reduceLT,Int.reduceLE,Int.reduceLT,Nat.reducePow,Nat.reduceAnd,Nat.reduceOr,Nat.reduceShiftRight,Int.reduceToNat,reduceCtorEq,Nat.reduceAdd,Nat.reduceMul,Nat.reduceSub,Nat.reduceBEq,Nat.reduceEqDiff];refine ⟨fun hlt=>?_,fun hge=>?_⟩
  ·have hlt:(i:Int) < 8:=VM;have w1:IntKind.i64.wrap (8 * ↑i)=8 * i:=Bu Aa;have w2:IntKind.i64.wrap (56 - 8 * ↑i)=56 - 8 * i:=Bu Aa;have w3:IntKind.i64.wrap ((i:Int) + 1)=i + 1:=Bu Aa;simp only [w1,w2,w3];refine ⟨by omega,⟨by omega,by omega⟩,by omega,i + 1,by omega,by omega,Ak.fr [0] [] hx AG Al ?_ ?_⟩
   ·simp only [MF,Nat.reduceLT,reduceCtorEq,Nat.reduceEqDiff];omega
   ·simp only [MF,Nat.reduceLT,reduceCtorEq,Nat.reduceEqDiff];intro j hj;by_cases hji:j=o + i
    ·rw [if_pos hji,if_pos Aa,KD,Int.fdiv_eq_ediv_of_nonneg _ (Int.pow_nonneg Aa),byt];have e1:min (56 - 8 * (i:Int)).toNat IntKind.u64.bits=56 - 8 * (j - o):=by simp only [IntKind.bits];omega
     rw [e1]
    ·rw [if_neg hji];by_cases h2:o≤j∧j < o + i
     ·rw [if_pos h2,if_pos Aa]
     ·rw [if_neg h2,if_neg Aa]
  ·have hge:¬ (i:Int) < 8:=W0;have hi8:i=8:=Aa;subst hi8;refine Ap.mk hx [0] [] (.tup .fnil) _ 1 Al ?_ ?_ ?_ ⟨rfl,rfl,rfl⟩
   ·simp [EL,Hv,IL]
   ·simp [EL,H3,Bz,Ay]
   ·simp only [MF,Nat.reduceLT,reduceCtorEq,Nat.reduceEqDiff];intro i hi;trivial
variable {M:Seat}
def BN (v:BitVec 64):Dg:=Dg.mk' fun j=>if j < 24 then 0 else (v >>> (56 - 8 * (j - 24))).setWidth 8
theorem Aa5 (v:BitVec 64) (i:Nat):V.int .u8 (byt (v.toNat:Int) i)=B ((v >>> (56 - 8 * i)).setWidth 8):=by
 simp only [B,byt,BitVec.toNat_setWidth,Lb4]
 congr 1
theorem Ux:BN 0=Dg.zero:=by
 apply Dg.ext';intro j hj;rw [BN,Dg.at_mk' _ _ hj,Dg.at_zero];split
 ·rfl
 ·simp
theorem Yy (v:BitVec 64):V.ar 1 32 (fun i=>V.int .u8 (if 24≤i∧i < 24 + 8 then byt (v.toNat:Int) (i - 24) else 0))=dg (BN v):=by
 have h:(fun i=>V.int .u8 (if 24≤i∧i < 24 + 8 then byt (v.toNat:Int) (i - 24) else 0))=fun j=>B ((BN v).at j):=by
  funext j;by_cases hj:j < 32
  ·rw [BN,Dg.at_mk' _ _ hj];by_cases h2:j < 24
   ·rw [if_pos h2,if_neg Aa];rfl
   ·rw [if_neg h2,if_pos Aa,Aa5]
  ·rw [if_neg Aa];simp only [Dg.at,List.getD];rw [List.getElem?_eq_none (by rw [(BN v).h];omega)];rfl
 simp only [dg,h]
theorem J0 (ok:OkM M) (v:BitVec 64) :
 Ae M 202 [W v] [] 0 (Q3 (dg (BN v)) [] 0):=by
 refine Ab ok.k202 rfl fun x hx=>?_;refine es 30 ?_;simp only [Arw,Asf,D3,↓Ac,ex,Ro,Bd,Br,Af,seval];refine Cq (Md ok.k312 32 24 8 (fun _=>0) (v.toNat:Int) Aa Aa Aa) False [16] [] B9 B9 rfl (by simp [Ag]) (by simp only [BE,seval,W]) (by simp only [BE,seval]) ?_;rintro r H' k' ⟨rfl,rfl,rfl⟩;refine ⟨⟨by omega,fun h=>h.elim⟩,?_⟩;have hnum:B8 [16] 64 1=[16]:=rfl;simp only [hnum,LN,V.ren,AU,AB,BZ,Ch,Lag,List.append_nil,B3,ne_eq,B4,seval];simp only [Yy,D3,↓Ac,ex,Ro,Bd,Br,Af,seval];refine Ap.mk hx [] [] (dg (BN v)) [] 0 Al ?_ ?_ trivial ⟨rfl,rfl,rfl⟩
 ·simp only [UY,↓Ac,ex,Ro,Bd,Br,Af,seval]
 ·simp only [Vw,↓Ac,ex,Ro,Bd,Br,Af,seval]
def mach (f g:Nat→BitVec 64) (pc:BitVec 64) (hl:Bool) (ex:BitVec 64):V :=
 .st 8211 (.fcons 0 (.ar 1 8192 (fun j=>W (f j))) (.fcons 8192 (.ar 1 16 (fun j=>W (g j))) (.fcons 8208 (W pc) (.fcons 8209 (.bool hl) (.fcons 8210 (W ex) .fnil)))))
def UV:LC:=(sr [mt 20 3,A1 21 (.mksl 32 32 zD (.t 20) (.t 20)),mt 4 21] (.seq (sr [mt 22 4,
  lN 23 0 22,
  mI 24 0] (.block 2 (.loop (sr [ak 25 .lss 24 23] (.seq (DJ 25 2) (.seq (.block 3 (sr [mt 26 24,mt 5 26] (.reg [mt 27 4,mt 28 5,mt 29 0,mt 30 5,nc 31 29,fa 32 0 31,ib 33 8192 1 32 30,lb 34 1 33,kl 35 202 [(.t 34)],ia 36 32 27 28,sb 32 36 35]))) (.reg [aI 37 .add 24 1,mt 24 37]))))))) (sr [mt 38 4,mt 2 38] .ret)))
abbrev U0 (f:Nat→BitVec 64):V→Hp→Nat→Prop:=fun r H' k'=>∃ n,n≤8192∧(∀ j,n≤j→j < 8192→f j=0)∧r = .sl 0 [] 0 n 32∧H'=[(0,.ar 32 n (fun j=>dg (BN (f j))))]∧k'=1
theorem Q1 {x:Ctx} (ok:OkM M) (hx:x.k=0) (f g:Nat→BitVec 64) (pc:BitVec 64) (hl:Bool) (e:BitVec 64) (n:Nat) (hn:n≤8192) (hz:∀ j,n≤j→j < 8192→f j=0) :
 AV M x (Ap M x [.tmp 2] (U0 f)) [.code UV] 0 (fr 39 [(0,.imm (mach f g pc hl e)),(3,.int .i64 n)]) []:=by
 (refine es 40 ?_;simp (maxSteps:=2000000) only [UV,mach,D3,↓Ac,ex,Ro,Bd,Br,Af,seval]);repeat refine sd ?_
 refine Am (σ:=Nat) (fun q=>q≤n) (fun q=>fr 39 [(0,.imm (mach f g pc hl e)),(4,.sl 0 [] 0 n 32),(23,.int .i64 n),(24,.int .i64 q)])
  (fun q=>[(0,.ar 32 n (fun j=>dg (if j < q then BN (f j) else Dg.zero)))]) (fun _=>1) (fun q=>n - q) 0 Aa ?_ ?_
 ·refine Ak.fr [16] [] hx AG Al ?_ ?_
  ·simp only [BE,seval,mach]
  ·simp only [BE,seval,dg0];intro j hj;rw [if_neg Aa]
 ·intro q hq;have w1:IntKind.i64.wrap ((q:Int) + 1)=((q + 1:Nat):Int):=AW;(refine es 40 ?_;simp (maxSteps:=2000000) only [w1,mach,D3,↓Ac,ex,Ro,Bd,Br,Af,seval]);refine ⟨fun hlt=>?_,fun hge=>?_⟩
  ·have hlt:=of_decide_eq_true hlt;repeat refine sd ?_
   refine AZ (J0 ok _) ⟨rfl,trivial⟩ rfl ?_;simp only [D3,↓Ac,ex,Ro,Bd,Br,Af,seval];repeat refine sd ?_
   refine ⟨q + 1,by omega,by omega,?_⟩;refine Ak.fr [0] [] hx AG Al ?_ ?_
   ·simp only [BE,seval,mach]
   ·simp only [BE,seval];intro j hj;by_cases h1:j=q
    ·rw [if_pos h1,if_pos Aa,h1]
    ·rw [if_neg h1];by_cases h2:j < q
     ·rw [if_pos h2,if_pos Aa]
     ·rw [if_neg h2,if_neg Aa]
  ·have hge:=of_decide_eq_false hge;have hq:q=n:=Aa;subst hq;refine Ap.mk hx [0] [] (.sl 0 [] 0 q 32) [(0,.ar 32 q (fun j=>dg (BN (f j))))] 1 Al ?_ ?_ ?_ ⟨q,hn,hz,rfl,rfl,rfl⟩
   ·simp only [UY,↓Ac,ex,Ro,Bd,Br,Af,seval]
   ·simp only [Vw,↓Ac,ex,Ro,Bd,Br,Af,seval]
   ·simp only [BE,seval];intro j hj;rw [if_pos hj]
theorem JV (ok:OkM M) (f g:Nat→BitVec 64) (pc:BitVec 64) (hl:Bool) (e:BitVec 64) :
 Ae M 199 [.imm (mach f g pc hl e)] [] 0 (U0 f):=by
 refine Ab ok.k199 rfl fun x hx=>?_;refine es 30 ?_;simp only [f199,Ast,mach,D3,↓Ac,ex,Ro,Bd,Br,Af,seval];refine Am (σ:=Nat) (fun n=>n≤8192∧∀ j,n≤j→j < 8192→f j=0) (fun n=>fr 39 [(0,.imm (mach f g pc hl e)),(3,.int .i64 n)])
  (fun _=>[]) (fun _=>0) (fun n=>n) 8192 ⟨by omega,fun j h1 h2=>by omega⟩ ?_ ?_
 ·refine Ak.fr [] [] hx AG Al ?_ ?_
  ·simp only [BE,seval,mach]
  ·trivial
 ·intro n ⟨hn,hz⟩;have tail:=Q1 ok hx f g pc hl e;by_cases h0:n=0
  ·have d0:decide ((0:Int) < n)=false:=decide_eq_false Aa;(refine es 5 ?_;simp (maxSteps:=2000000) only [d0,mach,D3,↓Ac,ex,Ro,Bd,Br,Af,seval]);refine AV.weak _ _ _ ?_ (tail n hn hz);refine Ak.fr [] [] hx AG Al ?_ ?_
   ·simp only [BE,seval,mach]
   ·trivial
  ·have d0:decide ((0:Int) < n)=true:=decide_eq_true Aa;have w1:IntKind.i64.wrap ((n:Int) - 1)=((n - 1:Nat):Int):=AW;(refine es 5 ?_;simp (maxSteps:=2000000) only [d0,w1,mach,D3,↓Ac,ex,Ro,Bd,Br,Af,seval]);refine ⟨by omega,fun e1=>?_,fun _=>?_⟩
   ·have e1:=of_decide_eq_true e1;have e2:f (n - 1)=0:=BitVec.eq_of_toNat_eq (by simpa using e1);(refine es 5 ?_;simp (maxSteps:=2000000) only [d0,w1,mach,D3,↓Ac,ex,Ro,Bd,Br,Af,seval]);refine ⟨n - 1,⟨by omega,fun j h1 h2=>?_⟩,by omega,?_⟩
    ·by_cases h3:j=n - 1
     ·rw [h3,e2] <;> rfl
     ·exact hz j Aa h2
    ·refine Ak.fr [] [] hx AG Al ?_ ?_
     ·simp only [BE,seval,mach]
     ·trivial
   ·refine AV.weak _ _ _ ?_ (tail n hn hz);refine Ak.fr [] [] hx AG Al ?_ ?_
    ·simp only [BE,seval,mach]
    ·trivial
def c7:=@mach.eq_1
def Cd (f:Nat→BitVec 64):Nat→Nat→Dg
 | 0,q=>if q < 8192 then BN (f q) else Dg.zero
 | h + 1,q=>BP (Cd f h (2 * q)) (Cd f h (2 * q + 1))
def lvs (f:Nat→BitVec 64) (n:Nat):List Dg:=(List.range n).map (fun j=>BN (f j))
theorem IH (f:Nat→BitVec 64) (n:Nat):(lvs f n).length=n:=by simp [lvs]
theorem Uk (f:Nat→BitVec 64) (n j:Nat) (hj:j < n) (d:Dg):(lvs f n).getD j d=BN (f j):=by
 simp [lvs,List.getD,List.getElem?_map,List.getElem?_range hj]
theorem HU (f:Nat→BitVec 64) (n:Nat) (hn:n≤8192) (hz:∀ j,n≤j→j < 8192→f j=0):∀ h q,Hb (lvs f n) h q=Cd f h q
 | 0, q => by
   rw [Sz,Cd];by_cases h1:q < n
   ·rw [Uk _ _ _ h1,if_pos Aa]
   ·rw [ED (by rw [IH];omega)];split
    ·rw [hz q Aa Aa,Ux]
    ·rfl
 | h + 1,q=>by rw [IZ,Cd,HU f n hn hz h,HU f n hn hz h]
theorem DM {M:Seat} (ok:OkM M) (f g:Nat→BitVec 64) (pc:BitVec 64) (hl:Bool) (e:BitVec 64) :
 Ae M 51 [.imm (mach f g pc hl e)] [] 0 (Q3 (Ai (dg (Cd f 13 0)) .nili) [] 0):=by
 refine Ab ok.k51 rfl fun x hx=>?_;refine es 30 ?_;simp only [f51,c51,AR,AX,D3,↓Ac,ex,Ro,Bd,Br,Af,seval];refine Cq (JV ok f g pc hl e) False [] [] List.nodup_nil B9 rfl B9 (by simp only [BE,Bz,mach,seval]) trivial ?_;rintro v H' k' ⟨n,hn,hz,rfl,rfl,rfl⟩;refine ⟨⟨by omega,fun h=>h.elim⟩,?_⟩;have hnum:B8 [] 80 1=[80]:=rfl;simp only [hnum,LN,V.ren,AU,AB,BZ,Ch,Lag,List.append_nil,B3,ne_eq,B4,seval];have hl13:(lvs f n).length≤2 ^ 13:=by rw [IH];omega
 refine L8 [80] (GR ok 13 Aa (lvs f n) hl13) ⟨rfl,?_,trivial⟩ rfl ?_
 ·simp only [row,IH,BE,seval];intro j hj;exact (Uk _ _ _ hj _).symm
 simp only [HU f n hn hz,AB,Ai,D3,↓Ac,ex,Ro,Bd,Br,Af,seval,LN,V.ren,AU,Ch,Lag,List.append_nil];refine Ap.mk hx [] [] (Ai (dg (Cd f 13 0)) .nili) [] 0 Al ?_ ?_ trivial ⟨rfl,rfl,rfl⟩
 ·simp only [UY,↓Ac,ex,Ro,Bd,Br,Af,seval];rfl
 ·simp only [Vw,↓Ac,ex,Ro,Bd,Br,Af,seval]
theorem F1 {M:Seat} (ok:OkM M) (f g:Nat→BitVec 64) (pc:BitVec 64) (hl:Bool) (e:BitVec 64) (i:Nat) (hi:i < 8192) :
 Ae M 50 [.imm (mach f g pc hl e),.int .u64 i] [] 0 (Q3 (Ai (.st 2 (.fcons 0 (W (f i)) (.fcons 1 (.sl 0 [] 0 13 32) .fnil))) .nili) [(0,.ar 32 13 (fun h=>dg (Cd f h ((i / 2 ^ h) ^^^ 1))))] 1):=by
 refine Ab ok.k50 rfl fun x hx=>?_;refine es 30 ?_;have d1:decide ((8192:Int)≤i)=false:=decide_eq_false Aa;simp only [f50,c50,d1,AR,AX,D3,↓Ac,ex,Ro,Bd,Br,Af,seval];refine Cq (JV ok f g pc hl e) False [] [] List.nodup_nil B9 rfl B9 (by simp only [BE,Bz,mach,seval]) trivial ?_;rintro v H' k' ⟨n,hn,hz,rfl,rfl,rfl⟩;refine ⟨⟨by omega,fun h=>h.elim⟩,?_⟩;have hnum:B8 [] 144 1=[144]:=rfl;have w1:IntKind.i64.wrap (i:Int)=i:=Bu Aa;simp only [hnum,w1,LN,V.ren,AU,AB,BZ,Ch,Lag,List.append_nil,B3,ne_eq,B4,seval];have hl13:(lvs f n).length≤2 ^ 13:=by rw [IH];omega
 refine Cq (WH ok 13 Aa Aa (lvs f n) hl13 i hi) False [] [144] List.nodup_nil B9 rfl B9 ⟨rfl,?_,rfl,trivial⟩ trivial ?_
 ·simp only [row,IH,BE,seval];intro j hj;exact (Uk _ _ _ hj _).symm
 rintro v H' k' ⟨rfl,rfl,rfl⟩;refine ⟨⟨by omega,fun h=>h.elim⟩,?_⟩;have hnum2:B8 [] 192 1=[192]:=rfl;simp only [hnum2,Ai,Ef,HU f n hn hz,LN,V.ren,AU,AB,BZ,Ch,Lag,List.append_nil,B3,ne_eq,B4,seval];simp only [mach,D3,↓Ac,ex,Ro,Bd,Br,Af,seval];repeat refine sd ?_
 refine Ap.mk hx [192] [] (Ai (.st 2 (.fcons 0 (W (f i)) (.fcons 1 (.sl 0 [] 0 13 32) .fnil))) .nili) [(0,.ar 32 13 (fun h=>dg (Cd f h ((i / 2 ^ h) ^^^ 1))))] 1 Al ?_ ?_ ?_ ⟨rfl,rfl,rfl⟩
 ·simp only [UY,↓Ac,ex,Ro,Bd,Br,Af,seval]
 ·simp only [Vw,↓Ac,ex,Ro,Bd,Br,Af,seval]
 ·simp only [BE,seval]
theorem NI (H:Hp) (m z:List Nat) (l:List Dg) (n:Nat) (hn:l.length=n):Bz H m z (row l) (.lst 32 n (Fw l)):=by
 subst hn;exact LD _ _ _ _
theorem TO (ts:List Nat):AR true (.iface ts) .nili .nili=True:=by simp [AR]
theorem SC (ts:List Nat):AX (.iface ts) .nili .nili=true:=rfl
theorem Akd (c:Bool) (ts:List Nat) (t:Nat) (v:V):AR c (.iface ts) (.ifc t v) .nili=True:=by simp [AR]
theorem Amv (ts:List Nat) (t:Nat) (v:V):AX (.iface ts) (.ifc t v) .nili=false:=by cases v <;> rfl
theorem Akq (c:Bool) (i:Nat) (p:List Stp):AR c .ptr (.ptr i p) .nilp=True:=by simp [AR]
theorem Ako (i:Nat) (p:List Stp):AX .ptr (.ptr i p) .nilp=false:=rfl
theorem Z2 (c:Bool) (v:V):AR c .ptr (.imm v) .nilp=True:=by simp [AR]
theorem YI (v:V):AX .ptr (.imm v) .nilp=false:=rfl
theorem FO {M:Seat} (ok:OkM M) (root:Dg) (i:Nat) (hi:i < 8192) (v:BitVec 64) (p:List Dg) (hp:p.length=13) :
 Ae M 53 [dg root,.int .u64 i,.st 2 (.fcons 0 (W v) (.fcons 1 (.lst 32 13 (Fw p)) .fnil))] [] 0 (Q3 (Ai (.bool (decide (D7 i (BN v) p 13=root))) .nili) [] 0):=by
 refine Ab ok.k53 rfl fun x hx=>?_;refine es 30 ?_;have d1:decide ((8192:Int)≤i)=false:=decide_eq_false Aa;have w1:IntKind.i64.wrap (i:Int)=i:=Bu Aa;have d2:(!decide ((13:Int)=13))=false:=rfl;simp only [f53,c53,d1,d2,w1,D3,↓Ac,ex,Ro,Bd,Br,Af,seval];refine ⟨_,_,AZ (J0 ok v) ⟨rfl,trivial⟩ rfl ⟨rfl,rfl⟩,?_⟩;simp only [D3,↓Ac,ex,Ro,Bd,Br,Af,seval];have hf:=N8 ok i (BN v) p Aa (by rw [hp];omega);rw [hp] at hf;refine ⟨_,_,AZ hf ⟨rfl,(AJ _ _ _ _ _).mpr rfl,NI _ _ _ _ _ hp,trivial⟩ rfl ⟨rfl,rfl⟩,?_⟩;by_cases he:D7 i (BN v) p 13=root
 ·have d3:=decide_eq_true he;simp (maxSteps:=2000000) only [Ai,TO,SC,d3,D3,↓Ac,ex,Ro,Bd,Br,Af,seval];refine Ap.mk hx [] [] (Ai (.bool true) .nili) [] 0 Al ?_ ?_ trivial ⟨rfl,rfl,rfl⟩
  ·simp only [UY,↓Ac,ex,Ro,Bd,Br,Af,seval]
  ·simp only [Vw,↓Ac,ex,Ro,Bd,Br,Af,seval]
 ·have d3:=decide_eq_false he;simp (maxSteps:=2000000) only [Ai,TO,SC,d3,D3,↓Ac,ex,Ro,Bd,Br,Af,seval];refine Ap.mk hx [] [] (Ai (.bool false) .nili) [] 0 Al ?_ ?_ trivial ⟨rfl,rfl,rfl⟩
  ·simp only [UY,↓Ac,ex,Ro,Bd,Br,Af,seval]
  ·simp only [Vw,↓Ac,ex,Ro,Bd,Br,Af,seval]
theorem T8 {M:Seat} (ok:OkM M) (root:Dg) (i:Nat) (hi:i < 8192) (v:BitVec 64) (p:List Dg) (hp:p.length=13) (hh:D7 i (BN v) p 13=root) (u:BitVec 64) :
 Ae M 52 [dg root,.int .u64 i,.st 2 (.fcons 0 (W v) (.fcons 1 (.lst 32 13 (Fw p)) .fnil)),W u] [] 0 (Q3 (Ai (dg (D7 i (BN u) p 13)) .nili) [] 0):=by
 refine Ab ok.k52 rfl fun x hx=>?_;refine es 30 ?_;have w1:IntKind.i64.wrap (i:Int)=i:=Bu Aa;simp only [f52,c52,w1,D3,↓Ac,ex,Ro,Bd,Br,Af,seval];have hd:=FO ok root i hi v p hp;rw [decide_eq_true hh] at hd;refine AZ hd ⟨(AJ _ _ _ _ _).mpr rfl,rfl,?_,trivial⟩ rfl ?_
 ·simp only [BE,seval]
 simp (maxSteps:=2000000) only [Ai,AR,AX,D3,↓Ac,ex,Ro,Bd,Br,Af,seval];refine ⟨_,_,AZ (J0 ok u) ⟨rfl,trivial⟩ rfl ⟨rfl,rfl⟩,?_⟩;simp only [D3,↓Ac,ex,Ro,Bd,Br,Af,seval];have hf:=N8 ok i (BN u) p Aa (by rw [hp];omega);rw [hp] at hf;refine ⟨_,_,AZ hf ⟨rfl,(AJ _ _ _ _ _).mpr rfl,NI _ _ _ _ _ hp,trivial⟩ rfl ⟨rfl,rfl⟩,?_⟩;simp (maxSteps:=2000000) only [Ai,AR,AX,D3,↓Ac,ex,Ro,Bd,Br,Af,seval];refine Ap.mk hx [] [] (Ai (dg (D7 i (BN u) p 13)) .nili) [] 0 Al ?_ ?_ trivial ⟨rfl,rfl,rfl⟩
 ·simp only [UY,↓Ac,ex,Ro,Bd,Br,Af,seval];rfl
 ·simp only [Vw,↓Ac,ex,Ro,Bd,Br,Af,seval]
end Mv
