/- A part. -/
import Derived.Test.YtncipgmjhaiagaaGreatDoorHO
set_option linter.all false
set_option maxRecDepth 20000
set_option maxHeartbeats 8000000
namespace Mv
open Go
variable {M:Seat}
theorem Ar9 (ok:OkRS M) (g:Nat→BitVec 64) (pc xt:BitVec 64) (pre:Pr) (c:Ck) (hpc:¬ 8192#64≤pc) (c1:Ck) (w:BitVec 64) (hR:RdR M c pc w c1) (h:Co w=true) (to ga:BitVec 64) (hto:BitVec.ofInt 64 (pN w)=to) (hga:g (pF w 48)=ga)
 (ho:(AT w=29∧8192#64≤to) ∨ (AT w=30∧ga=0#64∧8192#64≤to) ∨ (AT w=31∧¬ ga=0#64∧8192#64≤to) ∨ (AT w=32∧8192#64≤to) ∨ (AT w=33∧8192#64≤ga)):DsR M g pc false xt pre c g pc true Ap c1:=by
 refine Ac ok.k349 rfl fun x hx=>?_
 have a1:=Ai w 52
 have a2:=Ai w 48
 have a3:=Ai w 44
 have a4:=Ai w 40
 rcases ho with ⟨hop,h1⟩ | ⟨hop,h0,h1⟩ | ⟨hop,h0,h1⟩ | ⟨hop,h1⟩ | ⟨hop,h1⟩
 all_goals try simp only [h0] at hga
 all_goals
  refine es 2000 ?_;(simp only [Ar3,Ar4,hdR,At,dsH,hpc,LZ,seval])
  have zz:=aq3 @ckD.eq_1 @dg.eq_1 Mt;refine IJ [0] [0] (hR) ?_
  (simp only [ckD,H3,BA,seval])
  have zz:=Im;refine El (As ok.r.rp w h) ?_
  first | (have hh0:=h0;(simp only [Im,Al4,ckD,dg,hh0,hop,hga,hto,(eq_true h1),LZ,seval])) | (simp only [Im,Al4,ckD,dg,hop,hga,hto,(eq_true h1),LZ,seval])
  repeat refine sd ?_
  have zz:=@hdR.eq_1;refine JO [1] [] (Ar1 ok pc false xt Ap) ?_
  (simp only [hdR,LZ,seval])
  have zz:=aq5 @hdR.eq_1 @ckD.eq_1 @Ca @dg.eq_1 Og;exact Bg hx [0,1] ⟨rfl,rfl,rfl⟩
theorem Asb (ok:OkRS M) (g:Nat→BitVec 64) (pc xt:BitVec 64) (pre:Pr) (c:Ck) (hpc:¬ 8192#64≤pc) (c1:Ck) (w:BitVec 64) (hR:RdR M c pc w c1) (h:Co w=true) (to ga nx:BitVec 64) (hto:BitVec.ofInt 64 (pN w)=to) (hga:g (pF w 48)=ga) (hnx:¬ 8192#64≤nx)
 (ho:(AT w=29∧to=nx) ∨ (AT w=30∧ga=0#64∧to=nx) ∨ (AT w=31∧¬ ga=0#64∧to=nx) ∨ (AT w=33∧ga=nx)):DsR M g pc false xt pre c g nx false xt c1:=by
 refine Ac ok.k349 rfl fun x hx=>?_
 have a1:=Ai w 52
 have a2:=Ai w 48
 have a3:=Ai w 44
 have a4:=Ai w 40
 rcases ho with ⟨hop,rfl⟩ | ⟨hop,h0,rfl⟩ | ⟨hop,h0,rfl⟩ | ⟨hop,rfl⟩
 all_goals try simp only [h0] at hga
 all_goals
  refine es 2000 ?_;(simp only [Ar3,Ar4,hdR,At,dsH,hpc,LZ,seval])
  have zz:=aq3 @ckD.eq_1 @dg.eq_1 Mt;refine IJ [0] [0] (hR) ?_
  (simp only [ckD,H3,BA,seval])
  have zz:=Im;refine El (As ok.r.rp w h) ?_
  first | (have hh0:=h0;(simp only [Im,Al4,ckD,dg,hh0,hop,hga,hto,hnx,LZ,seval])) | (simp only [Im,Al4,ckD,dg,hop,hga,hto,hnx,LZ,seval])
  repeat refine sd ?_
  have zz:=aq5 @hdR.eq_1 @ckD.eq_1 @Ca @dg.eq_1 Og;exact Bg hx [0,1] ⟨rfl,rfl,rfl⟩
theorem As5 (ok:OkRS M) (g:Nat→BitVec 64) (pc xt:BitVec 64) (pre:Pr) (c:Ck) (hpc:¬ 8192#64≤pc) (c1:Ck) (w:BitVec 64) (hR:RdR M c pc w c1) (h:Co w=true) (to:BitVec 64) (hto:BitVec.ofInt 64 (pN w)=to) (hnx:¬ 8192#64≤to) (hop:AT w=32):DsR M g pc false xt pre c (E9 g (pF w 52) (pc + 1#64)) to false xt c1:=by
 refine Ac ok.k349 rfl fun x hx=>?_
 have a1:=Ai w 52
 have a2:=Ai w 48
 have a3:=Ai w 44
 have a4:=Ai w 40
 refine es 2000 ?_;(simp only [Ar3,Ar4,hdR,At,dsH,hpc,LZ,seval])
 have zz:=aq3 @ckD.eq_1 @dg.eq_1 Mt;refine IJ [0] [0] (hR) ?_
 (simp only [ckD,H3,BA,seval])
 have zz:=Im;refine El (As ok.r.rp w h) ?_
 (simp only [Im,Al4,ckD,dg,hop,hto,hnx,LZ,seval])
 repeat refine sd ?_
 have zz:=aq5 @hdR.eq_1 @ckD.eq_1 @Ca @dg.eq_1 Og;exact Bg hx [0,1] ⟨rfl,rfl,rfl⟩
theorem Ast (ok:OkRS M) (g:Nat→BitVec 64) (pc xt:BitVec 64) (pre:Pr) (c:Ck) (hpc:¬ 8192#64≤pc) (c1:Ck) (w:BitVec 64) (hR:RdR M c pc w c1) (h:Co w=true) (ga:BitVec 64) (hga:g (pF w 48)=ga)
 (ho:(AT w=30∧¬ ga=0#64) ∨ (AT w=31∧ga=0#64)):DsR M g pc false xt pre c g (pc + 1#64) false xt c1:=by
 refine Ac ok.k349 rfl fun x hx=>?_
 have a1:=Ai w 52
 have a2:=Ai w 48
 have a3:=Ai w 44
 have a4:=Ai w 40
 rcases ho with ⟨hop,h0⟩ | ⟨hop,h0⟩
 all_goals
  refine es 2000 ?_;(simp only [Ar3,Ar4,hdR,At,dsH,hpc,LZ,seval])
  have zz:=aq3 @ckD.eq_1 @dg.eq_1 Mt;refine IJ [0] [0] (hR) ?_
  (simp only [ckD,H3,BA,seval])
  have zz:=Im;refine El (As ok.r.rp w h) ?_
  (simp only [Im,Al4,ckD,dg,hop,hga,h0,LZ,seval])
  repeat refine sd ?_
  have zz:=aq5 @hdR.eq_1 @ckD.eq_1 @Ca @dg.eq_1 Og;exact Bg hx [0,1] ⟨rfl,rfl,rfl⟩
theorem Asi (ok:OkRS M) (g:Nat→BitVec 64) (pc xt:BitVec 64) (pre:Pr) (c:Ck) (hpc:¬ 8192#64≤pc) (c1:Ck) (w:BitVec 64) (hR:RdR M c pc w c1) (h:Co w=true) (hop:AT w=34) (hw:(wi (g (pF w 48)) 8#64 && wi (g (pF w 44)) 4#64)=false):DsR M g pc false xt pre c g pc true Ap c1:=by
 refine Ac ok.k349 rfl fun x hx=>?_
 have a1:=Ai w 52
 have a2:=Ai w 48
 have a3:=Ai w 44
 have a4:=Ai w 40
 cases h3:wi (g (pF w 48)) 8#64
 case' true=>have h4:wi (g (pF w 44)) 4#64=false:=by rw [h3] at hw;exact hw
 all_goals
  refine es 2000 ?_;(simp only [Ar3,Ar4,hdR,At,dsH,hpc,LZ,seval])
  have zz:=aq3 @ckD.eq_1 @dg.eq_1 Mt;refine IJ [0] [0] (hR) ?_
  (simp only [ckD,H3,BA,seval])
  have zz:=Im;refine El (As ok.r.rp w h) ?_
  (simp only [Im,Al4,ckD,dg,hop,LZ,seval])
  repeat refine sd ?_
  refine Ah (Ar0 ok _ 8#64 Ak) ?_
  (simp only [h3,LZ,seval])
  try
   (refine Ah (Ar0 ok _ 4#64 Ak) ?_
    (simp only [h4,LZ,seval]))
  have zz:=@hdR.eq_1;refine JO [1] [] (Ar1 ok pc false xt Ap) ?_
  (simp only [hdR,LZ,seval])
  have zz:=aq5 @hdR.eq_1 @ckD.eq_1 @Ca @dg.eq_1 Og;exact Bg hx [0,1] ⟨rfl,rfl,rfl⟩
theorem Asm (ok:OkRS M) (g:Nat→BitVec 64) (pc xt:BitVec 64) (pre:Pr) (c:Ck) (hpc:¬ 8192#64≤pc) (c1:Ck) (w:BitVec 64) (hR:RdR M c pc w c1) (h:Co w=true) (hop:AT w=35) (hw:(wi (g (pF w 48)) 4#64 && wi (g (pF w 44)) 8#64)=false):DsR M g pc false xt pre c g pc true Ap c1:=by
 refine Ac ok.k349 rfl fun x hx=>?_
 have a1:=Ai w 52
 have a2:=Ai w 48
 have a3:=Ai w 44
 have a4:=Ai w 40
 cases h3:wi (g (pF w 48)) 4#64
 case' true=>have h4:wi (g (pF w 44)) 8#64=false:=by rw [h3] at hw;exact hw
 all_goals
  refine es 2000 ?_;(simp only [Ar3,Ar4,hdR,At,dsH,hpc,LZ,seval])
  have zz:=aq3 @ckD.eq_1 @dg.eq_1 Mt;refine IJ [0] [0] (hR) ?_
  (simp only [ckD,H3,BA,seval])
  have zz:=Im;refine El (As ok.r.rp w h) ?_
  (simp only [Im,Al4,ckD,dg,hop,LZ,seval])
  repeat refine sd ?_
  refine Ah (Ar0 ok _ 4#64 Ak) ?_
  (simp only [h3,LZ,seval])
  try
   (refine Ah (Ar0 ok _ 8#64 Ak) ?_
    (simp only [h4,LZ,seval]))
  have zz:=@hdR.eq_1;refine JO [1] [] (Ar1 ok pc false xt Ap) ?_
  (simp only [hdR,LZ,seval])
  have zz:=aq5 @hdR.eq_1 @ckD.eq_1 @Ca @dg.eq_1 Og;exact Bg hx [0,1] ⟨rfl,rfl,rfl⟩
def psh (o:BitVec 64) (p:Nat→BitVec 8):Nat→BitVec 64
 | 0=>o
 | k + 1=>psh o p k * 256#64 + (p k).setWidth 64
theorem Ard (x:BitVec 64) (b:BitVec 8):(x <<< (8#64).toNat) ||| b.setWidth 64=x * 256#64 + b.setWidth 64:=by
 have h1:x * 256#64=x <<< (8#64).toNat:=by
  apply BitVec.eq_of_toNat_eq
  simp [BitVec.toNat_mul,BitVec.toNat_shiftLeft,Nat.shiftLeft_eq]
 rw [h1,BitVec.add_eq_or_of_and_eq_zero]
 ext i hi
 simp only [BitVec.getElem_and,BitVec.getElem_shiftLeft,BitVec.getElem_setWidth,BitVec.getElem_zero,show (8#64).toNat=8 from rfl]
 by_cases h:i < 8
 ·simp [h]
 ·have:b.getLsbD i=false:=BitVec.getLsbD_of_ge b i Aa
  simp [this]
theorem Aq6 (o:BitVec 64) (p:Nat→BitVec 8):∀ k,psh o p k=o * BitVec.ofNat 64 (256 ^ k) + Jp p k
 | 0=>by simp [psh,Jp]
 | k + 1 => by
   rw [psh,Aq6 o p k,Jp,Ard]
   have h:BitVec.ofNat 64 (256 ^ (k + 1))=BitVec.ofNat 64 (256 ^ k) * 256#64:=by
    apply BitVec.eq_of_toNat_eq
    simp [BitVec.toNat_mul,Nat.pow_succ,Nat.mul_mod]
   rw [h,BitVec.add_mul,BitVec.mul_assoc,BitVec.add_assoc]
theorem Arl (o:BitVec 64) (p:Nat→BitVec 8):psh o p 8=Jp p 8:=by
 rw [Aq6]
 have:BitVec.ofNat 64 (256 ^ 8)=0#64:=Ak
 rw [this];simp
def mS (f:Nat→BitVec 64) (b n:Nat) (p:Nat→BitVec 8) (i j:Nat):BitVec 64 :=
 if b≤j∧j < b + n then psh (f j) (fun t=>p (8 * (j - b) + t)) (min 8 (i - 8 * (j - b))) else f j
theorem Fa (f:Nat→BitVec 64) (b n:Nat) (p:Nat→BitVec 8) (j:Nat):mS f b n p 0 j=f j:=by
 unfold mS
 split
 ·rw [show min 8 (0 - 8 * (j - b))=0 by omega];rfl
 ·rfl
theorem EY (f:Nat→BitVec 64) (b n:Nat) (p:Nat→BitVec 8) (i:Nat) (hi:i < 8 * n) (j:Nat) :
 mS f b n p (i + 1) j=if j=b + i / 8 then mS f b n p i (b + i / 8) * 256#64 + (p i).setWidth 64 else mS f b n p i j:=by
 by_cases h:j=b + i / 8
 ·subst h
  rw [if_pos rfl]
  unfold mS
  rw [if_pos Aa,if_pos Aa,show b + i / 8 - b=i / 8 by omega,show min 8 (i + 1 - 8 * (i / 8))=i % 8 + 1 by omega,show min 8 (i - 8 * (i / 8))=i % 8 by omega,psh,show 8 * (i / 8) + i % 8=i by omega]
 ·rw [if_neg h]
  unfold mS
  by_cases h2:b≤j∧j < b + n
  ·rw [if_pos h2,if_pos h2]
   congr 1
   omega
  ·rw [if_neg h2,if_neg h2]
theorem Nb {M:Seat} (ok:OkRM M) (f g:Nat→BitVec 64) (pc xt:BitVec 64) (hpc:¬ 8192#64≤pc) (w:BitVec 64) (hw:f pc.toNat=w) (hop:AT w=34) (h:Co w=true) (hb:(wi (g (pF w 48)) 8#64 && wi (g (pF w 44)) 4#64)=false) :
 Af M 240 [.ptr 0 [],.ptr 3 []] (Cc f g pc false xt) 4 (Q3 (.tup .fnil) (Cc f g pc true Ap) 4):=by
 refine Ac ok.k240 rfl fun x hx=>?_
 have hp:pc.toNat < 8192:=BM
 have a1:=Ai w 52
 have a2:=Ai w 48
 have a3:=Ai w 44
 cases h1:wi (g (pF w 48)) 8#64 with
 | false =>
   refine es 2000 ?_;(simp only [N7,hpc,hw,seval])
   repeat refine sd ?_
   have zz:=Im;refine IM (As ok.rp w h) ?_
   (simp only [Jc,hop,seval])
   repeat refine sd ?_
   refine Ah (AW ok _ 8#64 Ak) ?_
   (simp only [h1,LZ,seval])
   have zz:=@Ba.eq_1;refine JO [0,1,2] [0] (Bq ok pc xt Ap false) ?_
   (simp only [Fj,seval])
   have zz:=@Ba.eq_1;exact Bg hx [0,1,2,3] ⟨rfl,rfl,rfl⟩
 | true =>
   rw [h1,Bool.true_and] at hb
   refine es 2000 ?_;(simp only [N7,hpc,hw,seval])
   repeat refine sd ?_
   have zz:=Im;refine IM (As ok.rp w h) ?_
   (simp only [Jc,hop,seval])
   repeat refine sd ?_
   refine Ah (AW ok _ 8#64 Ak) ?_
   (simp only [h1,LZ,seval])
   refine Ah (AW ok _ 4#64 Ak) ?_
   (simp only [hb,LZ,seval])
   have zz:=@Ba.eq_1;refine JO [0,1,2] [0] (Bq ok pc xt Ap false) ?_
   (simp only [Fj,seval])
   have zz:=@Ba.eq_1;exact Bg hx [0,1,2,3] ⟨rfl,rfl,rfl⟩
theorem Nz {M:Seat} (ok:OkRM M) (f g:Nat→BitVec 64) (pc xt:BitVec 64) (hpc:¬ 8192#64≤pc) (w:BitVec 64) (hw:f pc.toNat=w) (hop:AT w=35) (h:Co w=true) (hb:(wi (g (pF w 48)) 4#64 && wi (g (pF w 44)) 8#64)=false) :
 Af M 240 [.ptr 0 [],.ptr 3 []] (Cc f g pc false xt) 4 (Q3 (.tup .fnil) (Cc f g pc true Ap) 4):=by
 refine Ac ok.k240 rfl fun x hx=>?_
 have hp:pc.toNat < 8192:=BM
 have a1:=Ai w 52
 have a2:=Ai w 48
 have a3:=Ai w 44
 cases h1:wi (g (pF w 48)) 4#64 with
 | false =>
   refine es 2000 ?_;(simp only [N7,hpc,hw,seval])
   repeat refine sd ?_
   have zz:=Im;refine IM (As ok.rp w h) ?_
   (simp only [Jc,hop,seval])
   repeat refine sd ?_
   refine Ah (AW ok _ 4#64 Ak) ?_
   (simp only [h1,LZ,seval])
   have zz:=@Ba.eq_1;refine JO [0,1,2] [0] (Bq ok pc xt Ap false) ?_
   (simp only [Fj,seval])
   have zz:=@Ba.eq_1;exact Bg hx [0,1,2,3] ⟨rfl,rfl,rfl⟩
 | true =>
   rw [h1,Bool.true_and] at hb
   refine es 2000 ?_;(simp only [N7,hpc,hw,seval])
   repeat refine sd ?_
   have zz:=Im;refine IM (As ok.rp w h) ?_
   (simp only [Jc,hop,seval])
   repeat refine sd ?_
   refine Ah (AW ok _ 4#64 Ak) ?_
   (simp only [h1,LZ,seval])
   refine Ah (AW ok _ 8#64 Ak) ?_
   (simp only [hb,LZ,seval])
   have zz:=@Ba.eq_1;refine JO [0,1,2] [0] (Bq ok pc xt Ap false) ?_
   (simp only [Fj,seval])
   have zz:=@Ba.eq_1;exact Bg hx [0,1,2,3] ⟨rfl,rfl,rfl⟩
variable {M:Seat}
theorem Aug (p:Nat→BitVec 8) (i:Nat):psh 0#64 (fun j=>p (8 * i + j)) 8=Vh p i:=Arl _ _
theorem At6 (ok:OkRS M) (P:Pr):Af M 311 [.lst 1 64 (fun j=>B (P.at j))] [] 0 (Q3 (dg (B9 P.at)) [] 0):=by
 have e:B9 P.at=Qf (HL (List.replicate 25 0) (pd P.at)):=by rw [B9,zst];rfl
 rw [e]
 exact CC ok.w.b P.at
def Auh (e:Option (Nat × Nat × (Nat→V))) (ok:Prop) (H:Hp):Out:=match e with
 | some (sz,m,g)=>⟨sz=1∧ok∧0 < m∧∀ i,i < m→Arv (g i),.str (Aru m g),H⟩
 | none=>BR H
theorem At8 (A:List V) (H:Hp) (n:Nat) (x:X):Ad A H n (.b2s x)=Auh (CN H (x.ev A)) (BF H (x.ev A)) H:=rfl
theorem Aub (sz m:Nat) (g:Nat→V) (ok:Prop) (H:Hp):Auh (some (sz,m,g)) ok H=⟨sz=1∧ok∧0 < m∧∀ i,i < m→Arv (g i),.str (Aru m g),H⟩:=rfl
theorem Aua (b:BitVec 8):Arv (B b)=True:=by simp [Arv,B]
theorem Auc (c:Bool) (a b:ByteArray):AH c .str (.str a) (.str b)=True:=rfl
theorem Auf (a b:ByteArray):AN .str (.str a) (.str b)=(a == b):=rfl
theorem At9 {m:Nat} {f g:Nat→V} (h:∀ i,i < m→f i=g i):(Aru m f == Aru m g)=true:=by
 have:Aru m f=Aru m g:=by
  unfold Aru
  congr 2
  exact List.map_congr_left fun i hi=>by rw [h i (List.mem_range.1 hi)]
 rw [this]
 exact (show ∀ a:ByteArray,(a == a)=true from fun ⟨d⟩=>by show (d == d)=true;simp) _
def hdZ:V:=hdR .nils 0#64 false 0#64
def Aud:LC:=(sr [mU 26 0] (.block 5 (.loop (.seq (sr [mt 143 26,mt 144 18,ak 145 .lss 143 144]
 (cXx 145 5)) (.seq (.block 6 (sr [mU 27 0] (.seq (sr [mU 28 0] (.block 7 (.loop (.seq (sr [mt 148 28,
  aU 149 .lss 148 8]
 (cXx 149 7)) (.seq (.block 8 (.reg [mt 152 27,
  aU 153 .mul 152 256,mt 154 23,mt 155 26,
  aV 156 .mul 8 155,mt 157 28,ak 158 .add 156 157,ia 159 1 154 158,lb 160 1 159,
  cVv 161 .u64 160,ak 162 .add 153 161,mt 27 162])) (.reg [mt 150 28,
  aU 151 .add 150 1,mt 28 151])))))) (.reg [mt 163 0,mt 164 13,mt 165 26,ak 166 .add 164 165,mt 167 27,kl 168 451 [(.t 163),(.t 166),(.t 167),(.c (.bool true))]])))) (.reg [mt 146 26,
  aU 147 .add 146 1,mt 26 147]))))))
def Aue:LC:=(sr [mt 286 14,fa 287 1 4,sb 1 287 286] (sr [la 288 4 4,sb 4 6 288] .ret))
theorem At7 (ok:OkRS M) (g:Nat→BitVec 64) (pc xt:BitVec 64) (b:BitVec 64) (t:Nat) (ht:t≤8) (p:Nat→BitVec 8) (ds:Nat→Ck) (u:Nat→BitVec 64)
 (hwr:∀ i,i < t→WrR M (ds i) (b + BitVec.ofNat 64 i) (Vh p i) (u i) (ds (i + 1))) (x:Ctx) (hx:x.k=2) :
 Bl M x (Aq M x [.cell 6 true 4] (Q3 (hdS (pc + 1#64) false xt) (dsH (ds t) g) 2)) [.code Aud,.blk 0,.code Aue] 5
  (fr 289 [(0,.ptr 0 []),(4,.ptr 2 []),(6,.ptr 3 []),(13,W b),(14,W (pc + 1#64)),(18,W (BitVec.ofNat 64 t)),(23,.sl 4 [] 0 (8 * t) 1)])
  [(0,ckD (ds 0)),(1,.ar 1 16 fun j=>W (g j)),(2,hdS pc false xt),(3,hdZ),(4,.ar 1 (8 * t) fun j=>B (p j))]:=by
 refine es 2000 ?_
 (simp only [Aud,LZ,seval])
 refine Ag (σ:=Nat) (fun i=>i≤t) (fun i=>fr 289 [(0,.ptr 0 []),(4,.ptr 2 []),(6,.ptr 3 []),(13,W b),(14,W (pc + 1#64)),(18,W (BitVec.ofNat 64 t)),(23,.sl 4 [] 0 (8 * t) 1),(26,W (BitVec.ofNat 64 i))])
  (fun i=>[(0,ckD (ds i)),(1,.ar 1 16 fun j=>W (g j)),(2,hdS pc false xt),(3,hdZ),(4,.ar 1 (8 * t) fun j=>B (p j))]) (fun _=>5) (fun i=>t - i) 0 Aa ?_ ?_
 ·refine Aj.fr [0,1,2,3,4] [] hx Ax Ak ?_ ?_
  ·simp only [LY,seval]
  ·simp only [ckD,hdR,hdZ,dg,Ca,CF,seval]
 ·intro i hi
  refine es 2000 ?_
  have e1:=Qx i t Aa Aa
  by_cases h4:i=t
  ·subst h4
   have d0:=eq_false (Nat.lt_irrefl i)
   (simp only [e1,d0,Aue,hdR,hdZ,ckD,LZ,seval])
   have zz:=aq5 @hdR.eq_1 @ckD.eq_1 Mt @dg.eq_1 @dsH.eq_1;exact Bg hx [0,1] ⟨rfl,rfl,rfl⟩
  ·have hit:i < t:=Nat.lt_of_le_of_ne hi h4
   have t1:=FT i Aa
   have t4:=K2 i
   have d0:=eq_true hit
   have hw:=hwr i hit
   (simp only [e1,d0,LZ,seval])
   refine Ag (σ:=Nat) (fun k=>k≤8) (fun k=>fr 289 [(0,.ptr 0 []),(4,.ptr 2 []),(6,.ptr 3 []),(13,W b),(14,W (pc + 1#64)),(18,W (BitVec.ofNat 64 t)),(23,.sl 4 [] 0 (8 * t) 1),(26,W (BitVec.ofNat 64 i)),(27,W (psh 0#64 (fun j=>p (8 * i + j)) k)),(28,W (BitVec.ofNat 64 k))])
    (fun _=>[(0,ckD (ds i)),(1,.ar 1 16 fun j=>W (g j)),(2,hdS pc false xt),(3,hdZ),(4,.ar 1 (8 * t) fun j=>B (p j))]) (fun _=>5) (fun k=>8 - k) 0 Aa ?_ ?_
   ·refine Aj.fr [0,1,2,3,4] [] hx Ax Ak ?_ ?_
    ·simp only [psh,LY,seval]
    ·simp only [ckD,hdR,hdZ,dg,Ca,CF,seval]
   ·intro k hk
    refine es 2000 ?_
    have e8:=Qx k 8 Aa Aa
    by_cases h8:k=8
    ·subst h8
     have d1:=eq_false (Nat.lt_irrefl 8)
     rw [Aug]
     (simp only [e8,d1,LZ,seval])
     have zz:=aq3 @ckD.eq_1 @dg.eq_1 Mt;refine IJ [0] [0] (hw) ?_
     (simp only [ckD,H3,BA,t4,seval])
     refine ⟨i + 1,by omega,by omega,?_⟩
     refine Aj.fr [0,1,2,3,4] [] hx Ax Ak ?_ ?_
     ·simp only [LY,seval]
     ·simp only [ckD,hdR,hdZ,dg,Ca,CF,seval]
    ·have d1:=eq_true (show k < 8 by omega)
     have k4:=K2 k
     have k1:=FT k Aa
     have t2:(8#64 * BitVec.ofNat 64 i + BitVec.ofNat 64 k).toNat=8 * i + k:=by
      rw [BitVec.toNat_add,BitVec.toNat_mul,t1,k1]
      show (8 * i % _ + k) % _=_
      omega
     have p4:psh 0#64 (fun j=>p (8 * i + j)) k * 256#64 + (p (8 * i + k)).setWidth 64=psh 0#64 (fun j=>p (8 * i + j)) (k + 1):=rfl
     (simp only [e8,d1,k4,t2,LZ,seval])
     repeat refine sd ?_
     refine ⟨k + 1,by omega,by omega,?_⟩
     refine Aj.fr [0,1,2,3,4] [] hx Ax Ak ?_ ?_
     ·simp only [p4,LY,seval]
     ·simp only [ckD,hdR,hdZ,dg,Ca,CF,seval]
def Atp:LC:=(.seq (sr [mt 102 22,aI 103 .lss 102 8]
 (cXx 103 3)) (.seq (.block 4 (.reg [mt 106 19,mt 107 21,mt 108 22,
  aJ 109 .mul 8 108,
  aJ 110 .sub 56 109,
  cVv 111 .u64 110,ak 112 .shr 107 111,
  cVv 113 .u8 112,A1 114 (.bsl 1 1 (.int .u8) [(.i 1 0,1,(.t 113))]),
  aP 115 1 1 106 114,mt 19 115])) (.reg [mt 104 22,aI 105 .add 104 1,mt 22 105])))
def Asl (op:Nat) (A b:BitVec 64) (pc:BitVec 64) (n t X:BitVec 64) (q:Nat):List (Nat × V):=[(0,.ptr 0 []),(4,.ptr 2 []),(5,.ptr 3 []),(6,.ptr 4 []),(11,.int .i64 op),(12,W A),(13,W b),(14,W (pc + 1#64)),(17,W n),(18,W t),(19,.sl 5 [] 0 q 1),(20,W X)]
def Ase (c:Ck) (g:Nat→BitVec 64) (pc xt:BitVec 64) (pre:Pr) (q:Nat) (v:Nat→BitVec 64):Hp:=[(0,ckD c),(1,.ar 1 16 fun j=>W (g j)),(2,hdS pc false xt),(3,At pre),(4,hdZ),(5,.ar 1 q fun j=>B (A6 v j))]
theorem Asd {x:Ctx} (hx:x.k=2) {Q:List V→Hp→Nat→Prop} {K:List It} (c:Ck) (g:Nat→BitVec 64) (pc xt:BitVec 64) (pre:Pr) (op:Nat) (A b n t X:BitVec 64) (v:Nat→BitVec 64) (i:Nat) (hi:i < 8)
 (hK:Bl M x Q K 6 (fr 289 (Asl op A b pc n t X (8 * i + 8))) (Ase c g pc xt pre (8 * i + 8) v)) {A':List V} {H':Hp} {N':Nat} (k0:Nat) (hk0:1≤8 * i + k0) (hk8:k0≤8)
 (hw:Aj M x A' H' N' (fr 289 (Asl op A b pc n t X (8 * i + k0) ++ [(21,W (v i)),(22,.int .i64 k0)])) (Ase c g pc xt pre (8 * i + k0) v) 6):Gz M x Q Atp (.blk 3 :: K) A' H' N':=by
 refine Ag (σ:=Nat) (fun k=>1≤8 * i + k∧k≤8) (fun k=>fr 289 (Asl op A b pc n t X (8 * i + k) ++ [(21,W (v i)),(22,.int .i64 k)])) (fun k=>Ase c g pc xt pre (8 * i + k) v) (fun _=>6) (fun k=>8 - k) k0 ⟨hk0,hk8⟩ hw ?_
 rintro k ⟨h1,h8⟩
 by_cases h:k=8
 ·subst h
  have d0:(((8:Nat):Int) < 8)=False:=eq_false Aa
  refine es 5 ?_
  (simp only [Atp,Asl,Ase,Vl,d0,LZ,seval])
  refine Bl.weak _ _ _ ?_ hK
  refine Aj.fr [0,1,2,3,4,5] [] hx Ax Ak ?_ ?_
  ·simp only [Asl,LY,seval]
  ·simp only [Ase,ckD,hdR,hdZ,Jl,CF,seval]
 ·have d0:((k:Int) < 8)=True:=eq_true Aa
  have w0:IntKind.i64.wrap ((k:Int) + 1)=((k + 1:Nat):Int):=A9
  have w1:IntKind.i64.wrap (8 * (k:Int))=((8 * k:Nat):Int):=A9
  have w2:IntKind.i64.wrap (56 - ((8 * k:Nat):Int))=((56 - 8 * k:Nat):Int):=A9
  have w3:(BitVec.ofInt 64 ((56 - 8 * k:Nat):Int)).toNat=56 - 8 * k:=by rw [BitVec.ofInt_natCast,BitVec.toNat_ofNat,Nat.mod_eq_of_lt Aa]
  refine es 2000 ?_
  (simp only [Atp,Asl,Ase,Vl,d0,w0,w1,w2,w3,LZ,seval])
  repeat refine sd ?_
  have hk:A6 v (8 * i + k)=(v i >>> (56 - 8 * k)).setWidth 8:=by rw [A6,show (8 * i + k) / 8=i by omega,show (8 * i + k) % 8=k by omega,V7]
  refine ⟨k + 1,by omega,by omega,by omega,?_⟩
  refine Aj.fr [0,1,2,3,4,182] [] hx Ax Ak ?_ ?_
  ·simp only [Nat.add_assoc,LY,seval]
  ·simp only [ckD,hdR,hdZ,Jl,CF,Nat.add_assoc,seval]
   intro j hj
   by_cases h2:j < 8 * i + k
   ·rw [if_pos h2];simp only [LY,seval]
   ·obtain rfl:j=8 * i + k:=Aa
    rw [if_neg h2,hk];simp only [Nat.sub_self,if_true,LY,seval]
theorem Asn (ok:OkRS M) (g:Nat→BitVec 64) (pc xt:BitVec 64) (pre:Pr) (c:Ck) (hpc:¬ 8192#64≤pc) (c1:Ck) (w:BitVec 64) (hR:RdR M c pc w c1) (h:Co w=true) (hop:AT w=34) (A b:BitVec 64) (hA:g (pF w 48)=A) (hb:g (pF w 44)=b) (h3:wi A 8#64=true) (h4:wi b 4#64=true)
 (cs:Nat→Ck) (v:Nat→BitVec 64) (hc0:cs 0=c1) (hrd:∀ i,i < 8→RdR M (cs i) (A + BitVec.ofNat 64 i) (v i) (cs (i + 1))) (p:Nat→BitVec 8) (hp:p=(B9 (Pr.mk' (A6 v)).at).at) (ds:Nat→Ck) (u:Nat→BitVec 64) (hd0:ds 0=cs 8) (hwr:∀ i,i < 4→WrR M (ds i) (b + BitVec.ofNat 64 i) (Vh p i) (u i) (ds (i + 1))) :
 DsR M g pc false xt pre c g (pc + 1#64) false xt (ds 4):=by
 refine Ac ok.k349 rfl fun x hx=>?_
 have a1:=Ai w 52
 have a2:=Ai w 48
 have a3:=Ai w 44
 have a4:=Ai w 40
 have n0:(8#64 * 8#64:BitVec 64)=BitVec.ofNat 64 (8 * 8):=rfl
 have hr0:=hrd 0 Ak
 subst hc0
 refine es 2000 ?_;(simp only [Ar3,Ar4,hdR,At,dsH,hpc,LZ,seval])
 have zz:=aq3 @ckD.eq_1 @dg.eq_1 Mt;refine IJ [0] [0] (hR) ?_
 (simp only [ckD,H3,BA,seval])
 have zz:=Im;refine El (As ok.r.rp w h) ?_
 (simp only [Im,Al4,ckD,dg,hop,hA,hb,LZ,seval])
 repeat refine sd ?_
 refine Ah (Ar0 ok _ 8#64 Ak) ?_
 (simp only [h3,LZ,seval])
 refine Ah (Ar0 ok _ 4#64 Ak) ?_
 (simp only [h4,LZ,seval])
 refine AZ ?_
 refine es 2000 ?_
 (simp only [n0,LZ,seval])
 have zz:=aq3 @ckD.eq_1 @dg.eq_1 Mt;refine IJ [0] [0] (hr0) ?_
 (simp only [ckD,H3,BA,seval])
 have hk0:A6 v 0=(v 0 >>> 56).setWidth 8:=rfl
 have hT:=At7 ok g pc xt b 4 Aa p ds u hwr x hx
 rw [hd0] at hT
 have z0:IntKind.i64.wrap 0=0:=rfl
 have z1:IntKind.i64.wrap 1=1:=rfl
 have z2:IntKind.i64.wrap 56=56:=rfl
 have z3:(BitVec.ofInt 64 56).toNat=56:=rfl
 refine AZ ?_
 refine es 2000 ?_
 (simp only [z0,z1,z2,z3,LZ,seval])
 repeat refine sd ?_
 refine Asd hx (cs 1) g pc xt pre 34 A b 8#64 4#64 (BitVec.ofNat 64 (8 * 0)) v 0 Aa ?_ 1 Aa Aa ?_
 ·refine es 2000 ?_
  (simp only [Asl,Ase,LZ,seval])
  refine Ag (σ:=Nat) (fun i=>1≤i∧i≤8) (fun i=>fr 289 (Asl 34 A b pc 8#64 4#64 (BitVec.ofNat 64 (8 * i)) (8 * i))) (fun i=>Ase (cs i) g pc xt pre (8 * i) v) (fun _=>6) (fun i=>8 - i) 1 ⟨by omega,by omega⟩ ?_ ?_
  ·refine Aj.fr [0,1,2,3,4,5] [] hx Ax Ak ?_ ?_
   ·simp only [Asl,LY,seval]
   ·simp only [Ase,ckD,hdR,hdZ,Jl,CF,seval]
  ·rintro i ⟨h1,hi⟩
   have e1:=Qx (8 * i) (8 * 8) Aa Aa
   by_cases hin:i=8
   ·subst hin
    have d0:=eq_false (Nat.lt_irrefl (8 * 8))
    refine es 14 ?_
    (simp only [Asl,Ase,ckD,hdR,At,n0,e1,d0,LZ,seval])
    refine cpK (At6 ok (Pr.mk' (A6 v))) (by (try simp only [dg,LY,seval]) <;> first | exact q1 | (exact fun j hj=>by rw [Pr.at_mk' _ _ hj])) (by simp only [dg,LX]) ?_
    (simp only [BA,dg,At8,Aub,Aua,Auc,Auf,implies_true,seval])
    try (rw [hs];simp only [At9 (m:=32) (f:=fun i=>B ((Dg.mk' (A6 v)).at i)) (g:=fun i=>B (A6 v i)) (fun j hj=>by rw [Dg.at_mk' _ _ hj]),Bool.not_true,seval];simp only [LZ,seval])
    refine Bl.weak _ _ _ ?_ hT
    refine Aj.fr [0,1,2,4,262] [] hx Ax Ak ?_ ?_
    ·simp only [LY,seval]
    ·simp only [ckD,hdR,hdZ,Jl,hp,CF,seval]
   ·refine es 2000 ?_
    have d0:=eq_true (show 8 * i < 8 * 8 by omega)
    have d1:BitVec.ofNat 64 (8 * i) / 8#64=BitVec.ofNat 64 i:=by
     apply BitVec.eq_of_toNat_eq
     simp only [BitVec.toNat_udiv,BitVec.toNat_ofNat,seval]
     omega
    have d2:BitVec.ofNat 64 (8 * i) + 8#64=BitVec.ofNat 64 (8 * (i + 1)):=by
     apply BitVec.eq_of_toNat_eq
     simp only [BitVec.toNat_add,BitVec.toNat_ofNat]
     omega
    have m8:8 * (i + 1)=8 * i + 8:=Aa
    have hr1:=hrd i Aa
    (simp only [Asl,Ase,ckD,hdR,n0,e1,d0,d1,LZ,seval])
    have zz:=aq3 @ckD.eq_1 @dg.eq_1 Mt;refine IJ [0] [0] (hr1) ?_
    (simp only [ckD,H3,BA,seval])
    refine Asd hx (cs (i + 1)) g pc xt pre 34 A b 8#64 4#64 (BitVec.ofNat 64 (8 * i)) v i Aa ?_ 0 Aa Aa ?_
    ·refine es 2000 ?_
     (simp only [Asl,Ase,d2,LZ,seval])
     refine ⟨i + 1,by omega,by omega,by omega,?_⟩
     refine Aj.fr [0,1,2,3,4,5] [] hx Ax Ak ?_ ?_
     ·simp only [Asl,m8,LY,seval]
     ·simp only [Ase,ckD,hdR,hdZ,Jl,m8,CF,seval]
    ·refine Aj.fr [0,1,2,3,4,5] [] hx Ax Ak ?_ ?_
     ·simp only [Asl,Vl,Nat.add_zero,Int.cast_ofNat_Int,LY,seval]
     ·simp only [Ase,ckD,hdR,hdZ,Jl,Nat.add_zero,CF,seval]
 ·refine Aj.fr [0,1,2,18,34,2050] [] hx Ax Ak ?_ ?_
  ·simp only [Asl,Vl,Int.cast_ofNat_Int,LY,seval]
  ·simp only [Ase,ckD,hdR,hdZ,Jl,CF,seval]
   intro j hj
   obtain rfl:j=0:=Aa
   simp only [if_true,hk0,LY,seval]
theorem Asp (ok:OkRS M) (g:Nat→BitVec 64) (pc xt:BitVec 64) (pre:Pr) (c:Ck) (hpc:¬ 8192#64≤pc) (c1:Ck) (w:BitVec 64) (hR:RdR M c pc w c1) (h:Co w=true) (hop:AT w=35) (A b:BitVec 64) (hA:g (pF w 48)=A) (hb:g (pF w 44)=b) (h3:wi A 4#64=true) (h4:wi b 8#64=true)
 (cs:Nat→Ck) (v:Nat→BitVec 64) (hc0:cs 0=c1) (hrd:∀ i,i < 4→RdR M (cs i) (A + BitVec.ofNat 64 i) (v i) (cs (i + 1))) (hs:B9 pre.at=Dg.mk' (A6 v))(p:Nat→BitVec 8) (hp:p=pre.at) (ds:Nat→Ck) (u:Nat→BitVec 64) (hd0:ds 0=cs 4) (hwr:∀ i,i < 8→WrR M (ds i) (b + BitVec.ofNat 64 i) (Vh p i) (u i) (ds (i + 1))) :
 DsR M g pc false xt pre c g (pc + 1#64) false xt (ds 8):=by
 refine Ac ok.k349 rfl fun x hx=>?_
 have a1:=Ai w 52
 have a2:=Ai w 48
 have a3:=Ai w 44
 have a4:=Ai w 40
 have n0:(8#64 * 4#64:BitVec 64)=BitVec.ofNat 64 (8 * 4):=rfl
 have hr0:=hrd 0 Ak
 subst hc0
 refine es 2000 ?_;(simp only [Ar3,Ar4,hdR,At,dsH,hpc,LZ,seval])
 have zz:=aq3 @ckD.eq_1 @dg.eq_1 Mt;refine IJ [0] [0] (hR) ?_
 (simp only [ckD,H3,BA,seval])
 have zz:=Im;refine El (As ok.r.rp w h) ?_
 (simp only [Im,Al4,ckD,dg,hop,hA,hb,LZ,seval])
 repeat refine sd ?_
 refine Ah (Ar0 ok _ 4#64 Ak) ?_
 (simp only [h3,LZ,seval])
 refine Ah (Ar0 ok _ 8#64 Ak) ?_
 (simp only [h4,LZ,seval])
 refine AZ ?_
 refine es 2000 ?_
 (simp only [n0,LZ,seval])
 have zz:=aq3 @ckD.eq_1 @dg.eq_1 Mt;refine IJ [0] [0] (hr0) ?_
 (simp only [ckD,H3,BA,seval])
 have hk0:A6 v 0=(v 0 >>> 56).setWidth 8:=rfl
 have hT:=At7 ok g pc xt b 8 Aa p ds u hwr x hx
 rw [hd0] at hT
 have z0:IntKind.i64.wrap 0=0:=rfl
 have z1:IntKind.i64.wrap 1=1:=rfl
 have z2:IntKind.i64.wrap 56=56:=rfl
 have z3:(BitVec.ofInt 64 56).toNat=56:=rfl
 refine AZ ?_
 refine es 2000 ?_
 (simp only [z0,z1,z2,z3,LZ,seval])
 repeat refine sd ?_
 refine Asd hx (cs 1) g pc xt pre 35 A b 4#64 8#64 (BitVec.ofNat 64 (8 * 0)) v 0 Aa ?_ 1 Aa Aa ?_
 ·refine es 2000 ?_
  (simp only [Asl,Ase,LZ,seval])
  refine Ag (σ:=Nat) (fun i=>1≤i∧i≤4) (fun i=>fr 289 (Asl 35 A b pc 4#64 8#64 (BitVec.ofNat 64 (8 * i)) (8 * i))) (fun i=>Ase (cs i) g pc xt pre (8 * i) v) (fun _=>6) (fun i=>4 - i) 1 ⟨by omega,by omega⟩ ?_ ?_
  ·refine Aj.fr [0,1,2,3,4,5] [] hx Ax Ak ?_ ?_
   ·simp only [Asl,LY,seval]
   ·simp only [Ase,ckD,hdR,hdZ,Jl,CF,seval]
  ·rintro i ⟨h1,hi⟩
   have e1:=Qx (8 * i) (8 * 4) Aa Aa
   by_cases hin:i=4
   ·subst hin
    have d0:=eq_false (Nat.lt_irrefl (8 * 4))
    refine es 17 ?_
    (simp only [Asl,Ase,ckD,hdR,At,n0,e1,d0,LZ,seval])
    refine cpK (At6 ok pre) (by (try simp only [dg,LY,seval]) <;> first | exact q1 | (done)) (by simp only [dg,LX]) ?_
    (simp only [BA,dg,At8,Aub,Aua,Auc,Auf,implies_true,seval])
    try (rw [hs];simp only [At9 (m:=32) (f:=fun i=>B ((Dg.mk' (A6 v)).at i)) (g:=fun i=>B (A6 v i)) (fun j hj=>by rw [Dg.at_mk' _ _ hj]),Bool.not_true,seval];simp only [LZ,seval])
    refine Bl.weak _ _ _ ?_ hT
    refine Aj.fr [0,1,2,4,102] [] hx Ax Ak ?_ ?_
    ·simp only [LY,seval]
    ·simp only [ckD,hdR,hdZ,Jl,hp,CF,seval]
   ·refine es 2000 ?_
    have d0:=eq_true (show 8 * i < 8 * 4 by omega)
    have d1:BitVec.ofNat 64 (8 * i) / 8#64=BitVec.ofNat 64 i:=by
     apply BitVec.eq_of_toNat_eq
     simp only [BitVec.toNat_udiv,BitVec.toNat_ofNat,seval]
     omega
    have d2:BitVec.ofNat 64 (8 * i) + 8#64=BitVec.ofNat 64 (8 * (i + 1)):=by
     apply BitVec.eq_of_toNat_eq
     simp only [BitVec.toNat_add,BitVec.toNat_ofNat]
     omega
    have m8:8 * (i + 1)=8 * i + 8:=Aa
    have hr1:=hrd i Aa
    (simp only [Asl,Ase,ckD,hdR,n0,e1,d0,d1,LZ,seval])
    have zz:=aq3 @ckD.eq_1 @dg.eq_1 Mt;refine IJ [0] [0] (hr1) ?_
    (simp only [ckD,H3,BA,seval])
    refine Asd hx (cs (i + 1)) g pc xt pre 35 A b 4#64 8#64 (BitVec.ofNat 64 (8 * i)) v i Aa ?_ 0 Aa Aa ?_
    ·refine es 2000 ?_
     (simp only [Asl,Ase,d2,LZ,seval])
     refine ⟨i + 1,by omega,by omega,by omega,?_⟩
     refine Aj.fr [0,1,2,3,4,5] [] hx Ax Ak ?_ ?_
     ·simp only [Asl,m8,LY,seval]
     ·simp only [Ase,ckD,hdR,hdZ,Jl,m8,CF,seval]
    ·refine Aj.fr [0,1,2,3,4,5] [] hx Ax Ak ?_ ?_
     ·simp only [Asl,Vl,Nat.add_zero,Int.cast_ofNat_Int,LY,seval]
     ·simp only [Ase,ckD,hdR,hdZ,Jl,Nat.add_zero,CF,seval]
 ·refine Aj.fr [0,1,2,18,34,2082] [] hx Ax Ak ?_ ?_
  ·simp only [Asl,Vl,Int.cast_ofNat_Int,LY,seval]
  ·simp only [Ase,ckD,hdR,hdZ,Jl,CF,seval]
   intro j hj
   obtain rfl:j=0:=Aa
   simp only [if_true,hk0,LY,seval]
end Mv
