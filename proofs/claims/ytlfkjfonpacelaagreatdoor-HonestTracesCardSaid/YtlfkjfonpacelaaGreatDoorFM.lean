/- A part. -/
import Derived.Test.YtlfkjfonpacelaaGreatDoorFL
set_option linter.all false
set_option maxRecDepth 20000
set_option maxHeartbeats 8000000
namespace Mv
open Go
def G3 (p:Nat→BitVec 64):V:=.ar 1 32 fun j=>W (p j)
def WZ (p:Nat→BitVec 64):List Dg:=(List.range 32).map fun j=>CF (p j)
def Py (p:Nat→BitVec 64):Dg:=Gt (WZ p) 5 0
def eqK (p q:Nat→BitVec 64):Bool:=(List.range 32).all fun j=>decide (p j=q j)
theorem Aa2 {p q:Nat→BitVec 64}:eqK p q=true ↔ ∀ j,j < 32→p j=q j:=by
 simp [eqK]
theorem TL {p q:Nat→BitVec 64} (h:∀ j,j < 32→p j=q j):Py p=Py q:=by
 have:WZ p=WZ q:=List.map_congr_left fun j hj=>by rw [h j (List.mem_range.1 hj)]
 rw [Py,Py,this]
def GG (p:Nat→BitVec 64):List (Nat→BitVec 64)→Option Nat
 | []=>none
 | q :: r=>if eqK p q=true then some 0 else (GG p r).map (· + 1)
def kmZ:Nat→BitVec 64:=fun _=>0#64
def Ey (l:List (Nat→BitVec 64)):V:=.mp l.length (fun j=>G3 (l.getD j kmZ)) (fun j=>dg (Py (l.getD j kmZ)))
theorem Z5 (p q:Nat→BitVec 64):AL (.ar 32 1 false .int) (G3 p) (G3 q)=eqK p q:=by
 simp only [AL,G3,eqK,W]
 congr 1
 funext j
 simp only [decide_eq_decide]
 constructor
 ·intro h;exact BitVec.eq_of_toNat_eq Aa
 ·intro h;rw [h]
theorem N1 (p q:Nat→BitVec 64):AI true (.ar 32 1 false .int) (G3 p) (G3 q)=True:=by
 simp [AI,G3,W,V.isAgg]
theorem EE (p:Nat→BitVec 64):(G3 p).solid=true:=rfl
theorem Ny (p:Nat→BitVec 64):(G3 p).size=32:=rfl
theorem QG (p:Nat→BitVec 64):(G3 p).isAgg=true:=rfl
theorem Pj (p:Nat→BitVec 64) (ks:Nat→V):∀ (l:List (Nat→BitVec 64)) (i:Nat),(∀ j,j < l.length→ks (i + j)=G3 (l.getD j kmZ))→Hf (.ar 32 1 false .int) (G3 p) ks i l.length=(GG p l).map (i + ·)
 | [],_,_=>rfl
 | q :: r, i, h => by
   have h0:=h 0 B1
   simp only [Nat.add_zero,List.getD_cons_zero] at h0
   have ih:=Pj p ks r (i + 1) (fun j hj=>by
    have:=h (j + 1) (by simpa using hj)
    simp only [List.getD_cons_succ] at this
    rw [← this];congr 1;omega)
   simp only [List.length_cons,Hf,h0,Z5,GG]
   by_cases hk:eqK p q=true
   ·simp [hk]
   ·simp only [hk,SG,ih,Option.map_map]
    congr 1
    funext j
    simp only [Function.comp];omega
theorem MQ (p:Nat→BitVec 64) (l:List (Nat→BitVec 64)):Hf (.ar 32 1 false .int) (G3 p) (fun j=>G3 (l.getD j kmZ)) 0 l.length=GG p l:=by
 rw [Pj p _ l 0 (fun j _=>by rw [Nat.zero_add])]
 cases GG p l <;> simp
theorem Qb (p:Nat→BitVec 64):∀ (l:List (Nat→BitVec 64)) (i:Nat),GG p l=some i→Py (l.getD i kmZ)=Py p
 | [],_,h=>by cases h
 | q :: r, i, h => by
   rw [GG] at h
   by_cases hk:eqK p q=true
   ·rw [if_pos hk] at h
    cases h
    exact TL fun j hj=>(Aa2.1 hk j hj).symm
   ·rw [if_neg hk] at h
    cases hr:GG p r with
    | none=>rw [hr] at h;cases h
    | some k =>
      rw [hr] at h
      cases h
      exact Qb p r k hr
theorem UG (z:Z) (hh:Bool) (l:List (Nat→BitVec 64)) (p:Nat→BitVec 64) (H:Hp) (i:Nat) (h:GG p l=some i):CH (.ar 32 1 false .int) z true hh (Ey l) (G3 p) H=⟨hh=true,.tup (.fcons 0 (dg (Py p)) (.fcons 1 (.bool true) .fnil)),H⟩:=by
 simp only [CH,Ey,MQ,h,EE,N1,implies_true,Gw,if_true,Qb p l i h]
theorem UH (z:Z) (hh:Bool) (l:List (Nat→BitVec 64)) (p:Nat→BitVec 64) (H:Hp) (h:GG p l=none):CH (.ar 32 1 false .int) z true hh (Ey l) (G3 p) H=⟨hh=true,.tup (.fcons 0 (z.v 0) (.fcons 1 (.bool false) .fnil)),H⟩:=by
 simp only [CH,Ey,MQ,h,EE,N1,implies_true,Gw,if_true]
theorem Mp {α:Type} (l:List α) (x d:α) (j:Nat):(l ++ [x]).getD j d=if j=l.length then x else l.getD j d:=by
 simp only [List.getD_eq_getElem?_getD]
 by_cases h:j < l.length
 ·rw [List.getElem?_append_left h,if_neg Aa]
 ·by_cases h2:j=l.length
  ·subst h2;simp
  ·rw [if_neg h2,List.getElem?_append_right Aa,List.getElem?_eq_none EP,List.getElem?_eq_none Aa]
theorem VM (hh:Bool) (l:List (Nat→BitVec 64)) (p:Nat→BitVec 64) (id:Nat) (H:Hp) (h:GG p l=none):GD (.ar 32 1 false .int) hh (Ey l) (G3 p) (dg (Py p)) id H=⟨hh=true,.tup .fnil,Co H id (Ey (l ++ [p]))⟩:=by
 have e:Ey (l ++ [p]) = .mp (l.length + 1) (fun j=>if j=l.length then G3 p else G3 (l.getD j kmZ)) (fun j=>if j=l.length then dg (Py p) else dg (Py (l.getD j kmZ))):=by
  simp only [Ey,List.length_append,List.length_singleton,Mp]
  congr 1
  ·funext j;split <;> rfl
  ·funext j;split <;> rfl
 rw [e]
 simp only [GD,Ey,MQ,h,EE,Dk,N1,Option.getD_none,implies_true,Gw]
theorem Ba (m:List Nat) (l:List (Nat→BitVec 64)):(Ey l).ren m=Ey l:=by
 simp only [Ey,V.ren,E9,G3,W]
theorem Al (H:Hp) (m z:List Nat) (l:List (Nat→BitVec 64)):Ar H m z (Ey l) (Ey l)=True:=by
 refine eq_true ?_
 simp only [Ey,Ar,true_and]
 exact fun i _=>⟨by simp [G3,Ar,W],(AW _ _ _ _ _).mpr rfl⟩
def Aji (l:List (Nat→BitVec 64)) (p:Nat→BitVec 64):List (Nat→BitVec 64):=match GG p l with
 | some _=>l
 | none=>l ++ [p]
theorem Vs (w:BitVec 64) (j:Nat) (hj:j < 32):(CF w).at j=if 24≤j∧j < 24 + 8 then V1 w (j - 24) else 0#8:=by
 rw [CF,Dg.at_mk' _ j hj]
 by_cases h:j < 24
 ·rw [if_pos h,if_neg Aa];rfl
 ·rw [if_neg h,if_pos Aa];rfl
theorem Vb {M:Seat} (hc:Av M 312 O0=true) (F:Nat→Dg) (k:Nat) (hk:k < 32) (hF:F k=Dg.zero) (w:BitVec 64) :
 Af M 312 [.sl 0 [.i 32 k] 24 8 1,W w] [(0,.ar 32 32 fun j=>dg (F j))] 1 (Q3 (.tup .fnil) [(0,.ar 32 32 fun j=>dg (if j=k then CF w else F j))] 1):=by
 refine Ab hc rfl fun x hx=>?_
 refine es 2000 ?_;(simp only [O0,Ahf,LZ,seval])
 refine An (σ:=Nat) (fun i=>i≤8) (fun i=>fr 18 [(0,.sl 0 [.i 32 k] 24 8 1),(1,W w),(5,.int .i64 i)])
  (fun i=>[(0,.ar 32 32 fun j=>.ar 1 32 fun q=>B (if j=k∧24≤q∧q < 24 + i then V1 w (q - 24) else (F j).at q))]) (fun _=>1) (fun i=>8 - i) 0 Aa ?_ ?_
 ·refine Ak.fr [0] [] hx AQ Aj ?_ ?_
  ·simp only [Int.natCast_zero,LY,seval]
  ·simp only [dg,LY,seval]
   intro j hj q hq
   rw [if_neg Aa]
 ·intro i hi
  refine es 2000 ?_
  by_cases h8:i=8
  ·subst h8
   have d0:(((8:Nat):Int) < 8)=False:=eq_false Aa
   (simp only [d0,LZ,seval])
   refine Ap.mk hx [0] [] (.tup .fnil) _ 1 Aj (by (simp only [DS,seval])) (by simp only [LV,LY,seval]) ?_ ⟨rfl,rfl,rfl⟩
   simp only [dg,LY,seval]
   intro j hj q hq
   by_cases hjk:j=k
   ·subst hjk
    rw [if_pos rfl,Vs w q hq,hF,Dg.at_zero]
    by_cases h:24≤q∧q < 24 + 8
    ·rw [if_pos h,if_pos ⟨rfl,h⟩]
    ·rw [if_neg h,if_neg (fun h2=>h h2.2)];rfl
   ·rw [if_neg hjk,if_neg (fun h2=>hjk h2.1)]
  ·have d0:((i:Int) < 8)=True:=eq_true Aa
   have d1:(0≤(i:Int))=True:=eq_true Aa
   have w1:IntKind.i64.wrap (8 * (i:Int))=((8 * i:Nat):Int):=Bw
   have w2:IntKind.i64.wrap (56 - ((8 * i:Nat):Int))=((56 - 8 * i:Nat):Int):=Bw
   have w3:IntKind.i64.wrap ((i:Int) + 1)=((i + 1:Nat):Int):=Bw
   (simp only [d0,d1,w1,w2,w3,LZ,seval])
   refine ⟨by omega,hk,by omega,i + 1,by omega,by omega,?_⟩
   refine Ak.fr [0] [] hx AQ Aj ?_ ?_
   ·simp only [LY,seval]
   ·simp only [LY,seval]
    intro j hj
    by_cases hjk:j=k
    ·subst hjk
     simp only [if_true,true_and,LY,seval]
     intro q hq
     by_cases h1:q=24 + i
     ·rw [if_pos h1,if_pos Aa,h1,show 24 + i - 24=i by omega];exact (K2 _ _ _ _ _).mpr rfl
     ·rw [if_neg h1]
      by_cases h2:24≤q∧q < 24 + i
      ·rw [if_pos h2,if_pos Aa];exact (K2 _ _ _ _ _).mpr rfl
      ·rw [if_neg h2,if_neg Aa];exact (K2 _ _ _ _ _).mpr rfl
    ·simp only [hjk,false_and,if_false,LY,seval]
def Ax (pts:V) (d:Int) (kn pm:V):V:=.st 4 (.fcons 0 pts (.fcons 1 (.int .i64 d) (.fcons 2 kn (.fcons 3 pm .fnil))))
structure OkHp (M:Seat):Prop where
 m:OkM M
 k312:Av M 312 O0=true
 k363:Av M 363 Afb=true
theorem Tv (p:Nat→BitVec 64):(WZ p).length=32:=by simp [WZ]
theorem VG (p:Nat→BitVec 64) (j:Nat) (hj:j < 32):(WZ p).getD j Dg.zero=CF (p j):=by
 simp [WZ,List.getD,hj]
theorem Rl {M:Seat} (ok:OkHp M) (p:Nat→BitVec 64) (n:Nat) (d:Int) (l:List (Nat→BitVec 64)) (i:Nat) (h:GG p l=some i) :
 Af M 363 [.ptr 0 [],G3 p] [(0,Ax (.sl 2 [] 0 n 3) d (.map 3) (.map 1)),(1,Ey l)] 4 (Q3 (dg (Py p)) [(0,Ax (.sl 2 [] 0 n 3) d (.map 3) (.map 1)),(1,Ey l)] 4):=by
 refine Ab ok.k363 rfl fun x hx=>?_
 have hl:=fun z hh H=>UG z hh l p H i h
 refine es 2000 ?_;(simp only [Afb,Ae2,Ax,EE,Ny,QG,hl,BA,seval])
 repeat refine sd ?_
 have zz:=CC @Ax.eq_1 @Al @dg.eq_1;exact Bz hx [0,1,2,3] ⟨rfl,rfl,rfl⟩
theorem Rj {M:Seat} (ok:OkHp M) (p:Nat→BitVec 64) (n:Nat) (d:Int) (l:List (Nat→BitVec 64)) (h:GG p l=none) :
 Af M 363 [.ptr 0 [],G3 p] [(0,Ax (.sl 2 [] 0 n 3) d (.map 3) (.map 1)),(1,Ey l)] 4 (Q3 (dg (Py p)) [(0,Ax (.sl 2 [] 0 n 3) d (.map 3) (.map 1)),(1,Ey (l ++ [p]))] 4):=by
 refine Ab ok.k363 rfl fun x hx=>?_
 have hl:=fun z hh H=>UH z hh l p H h
 have hu:=fun hh id H=>VM hh l p id H h
 have hR:=Gn ok.m 5 Aj (WZ p) (by simp [WZ])
 rw [show Gt (WZ p) 5 0=Py p from rfl] at hR
 have zq:V.ar 1 32 (fun _=>B 0#8)=dg Dg.zero:=by simp only [dg,Dg.at_zero];rfl
 refine es 2000 ?_;(simp only [Afb,Ae2,Ax,EE,Ny,QG,hl,BA,seval])
 repeat refine sd ?_
 refine An (σ:=Nat) (fun i=>i≤32) (fun i=>fr 44 [(0,.ptr 0 []),(3,.ptr 4 []),(4,.ptr 5 []),(5,.ptr 6 []),(7,.ptr 7 []),(21,.ar 1 32 fun j=>W (p j)),(22,.int .i64 i)])
  (fun i=>[(0,Ax (.sl 2 [] 0 n 3) d (.map 3) (.map 1)),(1,Ey l),(4,G3 p),(5,dg Dg.zero),(6,dg Dg.zero),(7,.ar 32 32 fun j=>dg (if j < i then CF (p j) else Dg.zero))]) (fun _=>8) (fun i=>32 - i) 0 Aa ?_ ?_
 ·refine Ak.fr [0,1,2,3,4,20,164,452] [] hx AQ Aj ?_ ?_
  ·simp only [G3,Int.natCast_zero,LY,seval]
  ·simp only [Ax,Al,G3,dg,Dg.at_zero,Nat.not_lt_zero,if_false,LY,seval]
 ·intro i hi
  refine es 2000 ?_
  by_cases h32:i=32
  ·subst h32
   have d0:(((32:Nat):Int) < 32)=False:=eq_false Aa
   (simp only [d0,Ax,LZ,seval])
   refine cpK (hR) (by (try simp only [row,Tv,IS,dg,LY,seval]) <;> first | exact q1 | (intro j hj q _;rw [if_pos hj,VG p j hj])) (by simp only [row,Tv,IS,dg,LX]) ?_
   (simp only [Dq,Ax,EE,Ny,QG,hu,seval])
   repeat refine sd ?_
   have zz:=CC @Ax.eq_1 @Al @dg.eq_1;exact Bz hx [0,1,2,3] ⟨rfl,rfl,rfl⟩
  ·have d0:((i:Int) < 32)=True:=eq_true Aa
   have d1:(0≤(i:Int))=True:=eq_true Aa
   have w3:IntKind.i64.wrap ((i:Int) + 1)=((i + 1:Nat):Int):=Bw
   have hP:=Vb ok.k312 (fun j=>if j < i then CF (p j) else Dg.zero) i Aa (if_neg (Nat.lt_irrefl _)) (p i)
   (simp only [d0,d1,Ax,BA,seval])
   repeat refine sd ?_
   have zz:=@dg.eq_1;refine FA [7] (hP) ?_
   (simp only [w3,Ax,LZ,seval])
   repeat refine sd ?_
   refine ⟨i + 1,by omega,by omega,?_⟩
   refine Ak.fr [0,1,2,3,4,5,6,7] [] hx AQ Aj ?_ ?_
   ·simp only [LY,seval]
   ·simp only [Ax,Al,G3,dg,LY,seval]
    intro j hj q _
    by_cases h1:j=i
    ·rw [if_pos h1,if_pos Aa,h1]
    ·rw [if_neg h1]
     by_cases h2:j < i
     ·rw [if_pos h2,if_pos Aa]
     ·rw [if_neg h2,if_neg Aa]
theorem Mw {M:Seat} (ok:OkHp M) (p:Nat→BitVec 64) (n:Nat) (d:Int) (l:List (Nat→BitVec 64)) :
 Af M 363 [.ptr 0 [],G3 p] [(0,Ax (.sl 2 [] 0 n 3) d (.map 3) (.map 1)),(1,Ey l)] 4 (Q3 (dg (Py p)) [(0,Ax (.sl 2 [] 0 n 3) d (.map 3) (.map 1)),(1,Ey (Aji l p))] 4):=by
 unfold Aji
 cases h:GG p l with
 | none=>exact Rj ok p n d l h
 | some i=>exact Rl ok p n d l i h
def UZ (f:Nat→BitVec 64) (i j:Nat):BitVec 64:=f (32 * i + j)
def oK (f:Nat→BitVec 64) (l:List (Nat→BitVec 64)):Nat→List (Nat→BitVec 64)
 | 0=>l
 | i + 1=>Aji (oK f l i) (UZ f i)
theorem NZ (f:Nat→BitVec 64) (i:Nat):∀ h q,2 ^ h * (q + 1)≤32→i < 256→Gt (WZ (UZ f i)) h q=BP f h (2 ^ (5 - h) * i + q)
 | 0, q, hq, hi => by
   rw [Sg,VG _ _ Aa,BP,if_pos Aa];rfl
 | h + 1, q, hq, hi => by
   have e:2 ^ (h + 1)=2 * 2 ^ h:=by rw [Nat.pow_succ];omega
   have h5:h + 1≤5:=by
    refine Classical.byContradiction fun hc=>?_
    have:2 ^ 6≤2 ^ (h + 1):=Nat.pow_le_pow_right Aj Aa
    have:2 ^ (h + 1) * 1≤2 ^ (h + 1) * (q + 1):=Nat.mul_le_mul_left _ Aa
    omega
   have e2:2 ^ (5 - h)=2 * 2 ^ (5 - (h + 1)):=by rw [show 5 - h=(5 - (h + 1)) + 1 by omega,Nat.pow_succ];omega
   have e3:2 ^ (h + 1) * (q + 1)=2 ^ h * (2 * q + 2):=An6
   have e4:2 ^ h * (2 * q + 1)≤2 ^ h * (2 * q + 2):=Nat.mul_le_mul_left _ Aa
   have e6:2 ^ h * (2 * q + 1 + 1)=2 ^ h * (2 * q + 2):=rfl
   rw [Ii,NZ f i h (2 * q) Aa hi,NZ f i h (2 * q + 1) Aa hi,BP,e2]
   generalize 2 ^ (5 - (h + 1))=c
   have e5:2 * (c * i + q)=2 * c * i + 2 * q:=by rw [Nat.mul_add,Nat.mul_assoc]
   rw [e5,Nat.add_assoc]
theorem J8 (f:Nat→BitVec 64) (i:Nat) (hi:i < 256):Py (UZ f i)=BP f 5 i:=by
 have:=NZ f i 5 0 Aj hi
 simpa [Py] using this
def rtL (f:Nat→BitVec 64):List Dg:=(List.range 256).map fun i=>BP f 5 i
theorem Gq (f:Nat→BitVec 64):(rtL f).length=256:=by simp [rtL]
theorem Sn (f:Nat→BitVec 64) (j:Nat) (hj:j < 256):(rtL f).getD j Dg.zero=BP f 5 j:=by
 simp [rtL,List.getD,hj]
theorem Jx (f:Nat→BitVec 64):∀ h q,2 ^ h * (q + 1)≤256→Gt (rtL f) h q=BP f (5 + h) q
 | 0,q,hq=>by rw [Sg,Sn _ _ Aa]
 | h + 1, q, hq => by
   have e:2 ^ (h + 1)=2 * 2 ^ h:=by rw [Nat.pow_succ];omega
   have e3:2 ^ (h + 1) * (q + 1)=2 ^ h * (2 * q + 2):=An6
   have e4:2 ^ h * (2 * q + 1)≤2 ^ h * (2 * q + 2):=Nat.mul_le_mul_left _ Aa
   have e6:2 ^ h * (2 * q + 1 + 1)=2 ^ h * (2 * q + 2):=rfl
   rw [Ii,Jx f h (2 * q) Aa,Jx f h (2 * q + 1) Aa]
   rfl
structure OkHo (M:Seat):Prop where
 p:OkHp M
 d:OkD M
 k274:Av M 274 Aiz=true
theorem SZ {M:Seat} (ok:OkHo M) (f g:Nat→BitVec 64) (pc:BitVec 64) (hl:Bool) (xt:BitVec 64) (n:Nat) (d:Int) (l:List (Nat→BitVec 64)) :
 Af M 274 [.ptr 0 [],.ptr 4 []] [(0,Ax (.sl 2 [] 0 n 3) d (.map 3) (.map 1)),(1,Ey l),(4,mach f g pc hl xt)] 5 (Q3 (Ah (dg (BW (BP f 13 0) (Eg g pc hl xt))) .nili) [(0,Ax (.sl 2 [] 0 n 3) d (.map 3) (.map 1)),(1,Ey (oK f l 256)),(4,mach f g pc hl xt)] 5):=by
 have hP:=fun i=>Mw ok.p (UZ f i) n d (oK f l i)
 have hR:=Gn ok.p.m 8 Aj (rtL f) (by rw [Gq];decide)
 rw [Jx f 8 0 Aj] at hR
 have hH:=BX ok.d f g pc hl xt
 have hJ:=Iw ok.p.m ok.d (BP f (5 + 8) 0) g pc hl xt
 simp only [mach,AP] at hH hJ
 refine Ab ok.k274 rfl fun x hx=>?_
 refine es 2000 ?_;(simp only [Aiz,Agc,Ax,C7,seval])
 have w32:IntKind.i64.wrap 32=32:=rfl
 have hP0:=hP 0
 have e00:∀ j,UZ f 0 j=f (0 + j):=fun j=>by rw [UZ,Nat.mul_zero]
 refine Au ?_
 refine es 2000 ?_
 (simp only [w32,Ax,C7,seval])
 repeat refine sd ?_
 have zz:=Vy @Ax.eq_1 @G3.eq_1 @UZ.eq_1 @oK.eq_1 @oK.eq_2 Nat.mul_zero @Nat.zero_add @Al;refine Df [0,1,2,3] [0,1] (hP0) ?_
 (simp only [Ax,Ba,w32,BA,seval])
 repeat refine sd ?_
 refine An (σ:=Nat) (fun i=>1≤i∧i≤256) (fun i=>fr 44 [(0,.ptr 0 []),(1,.ptr 4 []),(4,.ptr 5 []),(5,.nili),(6,.sl 6 [] 0 i 32),(7,.int .i64 ((32 * i:Nat):Int))])
  (fun i=>[(0,Ax (.sl 2 [] 0 n 3) d (.map 3) (.map 1)),(1,Ey (oK f l i)),(4,mach f g pc hl xt),(5,dg Dg.zero),(6,.ar 32 i fun j=>dg (BP f 5 j))]) (fun _=>7) (fun i=>256 - i) 1 ⟨by omega,by omega⟩ ?_ ?_
 ·refine Ak.fr [0,1,2,3,4,5,309] [] hx AQ Aj ?_ ?_
  ·simp only [Nat.mul_one,seval,Int.cast_ofNat_Int,LY,reduceCtorEq]
  ·simp only [Ax,oK,Al,mach,J8 f 0 Aj,dg,Dg.at_zero,LY,seval]
   intro j hj
   obtain rfl:j=0:=Aa
   simp only [if_true,LY,seval]
 ·rintro i ⟨h1,hi⟩
  refine es 2000 ?_
  by_cases h256:i=256
  ·subst h256
   have d0:(((32 * 256:Nat):Int) < 8192)=False:=eq_false Aa
   (simp only [d0,Ax,C7,seval])
   refine cpK (hR) (by (try simp only [row,Gq,IS,dg,LY,seval]) <;> first | exact q1 | (intro j hj q _;rw [Sn f j hj])) (by simp only [row,Gq,IS,dg,LX]) ?_
   (simp only [BV,Ax,mach,seval])
   have zz:=Fw @dg.eq_1 @A7.eq_1 @A7.eq_2 @A7.eq_3 @A7.eq_4 @A7.eq_5 @A7.eq_6 @A7.eq_7 @A7.eq_8 @A7.eq_9 @A7.eq_10 @A7.eq_11;refine CV (hH) ?_
   (simp only [BV,Ax,mach,seval])
   have zz:=@dg.eq_1;refine CV (hJ) ?_
   (simp only [Ax,C7,seval])
   have zz:=F5 @Ax.eq_1 @Al @dg.eq_1 @Ah.eq_1;exact Bz hx [0,1,2,3,4] ⟨rfl,rfl,rfl⟩
  ·have d0:(((32 * i:Nat):Int) < 8192)=True:=eq_true Aa
   have d1:(0≤((32 * i:Nat):Int))=True:=eq_true Aa
   have w3:IntKind.i64.wrap (((32 * i:Nat):Int) + 32)=((32 * (i + 1):Nat):Int):=Bw
   have hPi:=hP i
   (simp only [d0,d1,w3,Ax,C7,seval])
   repeat refine sd ?_
   have zz:=F5 @Ax.eq_1 @G3.eq_1 @UZ.eq_1 @Al;refine Df [0,1,2,3] [0,1] (hPi) ?_
   (simp only [w3,Ax,Ba,BA,seval])
   repeat refine sd ?_
   refine ⟨i + 1,by omega,by omega,by omega,?_⟩
   refine Ak.fr [0,1,2,3,4,5,247] [] hx AQ Aj ?_ ?_
   ·simp only [LY,seval]
   ·simp only [Ax,oK,Al,mach,J8 f i Aa,dg,LY,seval]
    intro j hj
    by_cases hji:j < i
    ·simp only [hji,if_true,LY,seval]
    ·obtain rfl:j=i:=Aa
     simp only [Nat.lt_irrefl,Nat.sub_self,C2,LY,seval]
def Mc.com (m:Mc):Dg:=Agz m.f m.g m.pc m.hl m.xt
def CE (pres:List (Dg × Pr)) (m:Mc):Option Int × List Pf × Pr :=
 if m.hl=true then (none,[],Pr.zero) else if 8192#64≤m.pc then (none,[],Pr.zero)
 else ((nx (Hk pres) m.h ⟨m.f,[],Pr.zero⟩).2.1,(nx (Hk pres) m.h ⟨m.f,[],Pr.zero⟩).2.2.l,(nx (Hk pres) m.h ⟨m.f,[],Pr.zero⟩).2.2.pre)
theorem MD {M:Seat} (ok:OkOs M) (m:Mc) (pres:List (Dg × Pr)) (q:Nat) :
 Af M 97 [.ptr 0 [],.ptr 1 []] [(0,m.v),(1,GC (.nils)),(2,Bd A9 Pr.zero pres)] 5
  (Q3 (GX m (CE pres m).1 (CE pres m).2.1 (CE pres m).2.2) [(0,m.v),(1,GC (.nils)),(2,Bd A9 Pr.zero pres)] 5):=by
 obtain ⟨f,g,pc,hl,xt⟩:=m
 unfold CE
 cases hl with
 | true=>rw [if_pos rfl];exact Rh ok f g pc xt pres q
 | false =>
   rw [if_neg B1]
   by_cases hpc:8192#64≤pc
   ·rw [if_pos hpc];exact PO ok f g pc xt hpc pres q
   ·rw [if_neg hpc]
    generalize hq:nx (Hk pres) (⟨f,g,pc,false,xt⟩:Mc).h ⟨f,[],Pr.zero⟩=r
    obtain ⟨h1,e,s1⟩:=r
    exact TO ok f g pc xt hpc pres q h1 e s1 hq
theorem U4 {M:Seat} (ok:OkOs M) (m:Mc) (pres:List (Dg × Pr)) (q:Nat) :
 Af M 97 [.ptr 0 [],.ptr 1 []] [(0,m.v),(1,GC (.sl 5 [] 0 q 32)),(2,Bd A9 Pr.zero pres)] 6
  (Q3 (GX m (CE pres m).1 (CE pres m).2.1 (CE pres m).2.2) [(0,m.v),(1,GC (.sl 5 [] 0 q 32)),(2,Bd A9 Pr.zero pres)] 6):=by
 obtain ⟨f,g,pc,hl,xt⟩:=m
 unfold CE
 cases hl with
 | true=>rw [if_pos rfl];exact R7 ok f g pc xt pres q
 | false =>
   rw [if_neg B1]
   by_cases hpc:8192#64≤pc
   ·rw [if_pos hpc];exact Pe ok f g pc xt hpc pres q
   ·rw [if_neg hpc]
    generalize hq:nx (Hk pres) (⟨f,g,pc,false,xt⟩:Mc).h ⟨f,[],Pr.zero⟩=r
    obtain ⟨h1,e,s1⟩:=r
    exact TE ok f g pc xt hpc pres q h1 e s1 hq
def B3:Mc:=⟨fun _=>0#64,fun _=>0#64,0#64,false,0#64⟩
def BO:Mc:=⟨fun _=>0#64,fun _=>0#64,0#64,true,0#64⟩
theorem Aqi:isI 0#64=true:=Aj
theorem Alp:BS 0#64=0:=Aj
theorem nx0 (pres:List (Dg × Pr)):nx (Hk pres) B3.h ⟨B3.f,[],Pr.zero⟩=(BO.h,none,⟨B3.f,[AY B3.f 0#64],Pr.zero⟩):=by
 show MT (Hk pres) B3.h 0#64 ⟨B3.f,[AY B3.f 0#64],Pr.zero⟩=_
 rw [MT,if_neg (by rw [Aqi];simp),if_pos Alp]
 rfl
theorem Al4 (pres:List (Dg × Pr)):CE pres B3=(none,[AY B3.f 0#64],Pr.zero):=by
 rw [CE,if_neg (by simp [B3]),if_neg Aj,nx0]
def CP (a b c:Nat):V:=.st 4 (.fcons 0 (.map a) (.fcons 1 (.ptr b []) (.fcons 2 (.map c) (.fcons 3 .nils .fnil))))
def B4 (at':BitVec 64) (mp sp:Nat):V:=.st 3 (.fcons 0 (W at') (.fcons 1 (.ptr mp []) (.fcons 2 (.ptr sp []) .fnil)))
def U2:V:=.mp 0 (fun _=>W 0#64) (fun _=>dg Dg.zero)
theorem Adg (H:Hp) (m z:List Nat) (ks vs:Nat→V):Ar H m z (Ey []) (.mp 0 ks vs)=True:=by
 simp only [Ey,Ar,List.length_nil,Nat.not_lt_zero,false_implies,implies_true,and_self]
theorem Aay (H:Hp) (m z:List Nat) (ks vs:Nat→V):Ar H m z U2 (.mp 0 ks vs)=True:=by
 simp only [U2,Ar,Nat.not_lt_zero,false_implies,implies_true,and_self]
structure OkHn (M:Seat):Prop where
 o:OkHo M
 p:OkPr M
 k152:Av M 152 Al5=true
theorem Kd {M:Seat} (ok:OkHn M) (f g:Nat→BitVec 64) (pc:BitVec 64) (hl:Bool) (xt:BitVec 64) (pres:List (Dg × Pr)) (d:Int) (hd:1≤d∧d≤20) :
 Af M 152 [.ptr 0 [],.ptr 1 [],.int .i64 d] [(0,mach f g pc hl xt),(1,CP 2 3 4),(2,Bd A9 Pr.zero pres)] 5 (Q3 (Ah (.ptr 5 []) .nili) [(0,mach f g pc hl xt),(1,CP 2 3 4),(2,Bd A9 Pr.zero pres),(5,Ax (.sl 6 [] 0 1 3) d (.map 7) (.map 8)),(6,.ar 3 1 fun _=>B4 0#64 9 10),(7,U2),(8,Ey []),(9,mach f g pc hl xt),(10,CP 11 3 12),(11,Bd A9 Pr.zero pres),(12,BD [])] 13):=by
 have h1:(d < 1)=False:=eq_false Aa
 have h2:(20 < d)=False:=eq_false Aa
 have hC:=BL ok.o.p.m f g pc hl xt
 have hS:=D7 ok.p 0 pres
 refine Ab ok.k152 rfl fun x hx=>?_
 refine es 2000 ?_;(simp only [Al5,Akw,h1,h2,C7,CP,seval])
 have zz:=@mach.eq_1;refine Ia (hC) ?_
 (simp only [C7,CP,seval])
 have zz:=@Ce;refine Df [1,2,3,4] [1,2] (hS) ?_
 (simp only [CP,Am,BA,seval])
 refine Ap.mk hx [0,1,2,3,4,469,389,421,437,277,309,310,311] [] (Ah (.ptr 5 []) .nili) _ 13 Aj (by (simp only [DS,seval])) (by simp only [LV,Ah,LY,seval]) ?_ ⟨rfl,rfl,rfl⟩
 simp only [Ax,B4,mach,CP,Adg,Aay,Ay,Cm,seval]
 intro j hj
 obtain rfl:j=0:=Aa
 simp only [if_true,LY,seval]
theorem Un {M:Seat} (ok:OkV M):Af M 71 [.ptr 0 [],.ptr 1 [],.int .i64 1] [(0,B3.v)] 2 (Q3 (Ah (.int .i64 1) .nili) [(0,BO.v)] 2):=by
 have hS:=EA ok B3.f B3.g B3.pc B3.xt Aj 0#64 rfl Alp Aj
 have h:=XU ok (fun i=>if i=0 then B3 else BO) 1 1 Aj Aj (fun i hi=>by
  obtain rfl:i=0:=Aa
  exact ⟨rfl,hS⟩) (.inl rfl)
 exact h
variable {M:Seat}
structure OkHr (M:Seat):Prop where
 n:OkHn M
 v:OkV M
 k275:Av M 275 PF=true
def pt2 (j:Nat):V:=if j=0 then B4 0#64 4 5 else B4 1#64 10 11
theorem OL (ok:OkHr M) (pres:List (Dg × Pr)) (d:Int) :
 Af M 275 [.ptr 0 [],W 1#64] [(0,Ax (.sl 2 [] 0 1 3) d (.map 3) (.map 1)),(2,.ar 3 1 fun _=>B4 0#64 4 5),(4,B3.v),(5,CP 6 7 8),(6,Bd A9 Pr.zero pres)] 9
  (Q3 (B4 1#64 10 11) [(0,Ax (.sl 9 [] 0 2 3) d (.map 3) (.map 1)),(4,B3.v),(5,CP 6 7 8),(6,Bd A9 Pr.zero pres),(9,.ar 3 2 pt2),(10,BO.v),(11,CP 12 7 13),(12,Bd A9 Pr.zero pres),(13,BD [])] 14):=by
 have hC:=BL ok.n.o.p.m B3.f B3.g B3.pc B3.hl B3.xt
 have hS:=D7 ok.n.p 0 pres
 have hR:=Un ok.v
 have z1:IntKind.i64.wrap 1=1:=rfl
 simp only [Mc.v,B3,BO,mach] at hC hR
 refine Ab ok.k275 rfl fun x hx=>?_
 refine es 2000 ?_;(simp only [PF,RM,Ax,B4,CP,Mc.v,B3,C7,seval])
 refine Au ?_
 refine es 2000 ?_
 (simp only [Ax,B4,CP,Mc.v,B3,C7,seval])
 repeat refine sd ?_
 refine Au ?_
 refine es 2000 ?_
 (simp only [z1,Ax,B4,CP,Mc.v,B3,C7,seval])
 repeat refine sd ?_
 have zz:=@mach.eq_1;refine ofY (hC) ?_
 (simp only [Ax,B4,CP,C7,seval])
 have zz:=@Ce;refine Qw [5,6,7,8] [5,6] (hS) ?_
 (simp only [Ax,B4,CP,Am,BA,seval])
 have zz:=@mach.eq_1;refine Df [921,969] [921] (hR) ?_
 (simp only [Dq,Ax,B4,CP,seval])
 refine Ap.mk hx [0,1,2,3,4,5,6,7,8,1769,921,969,970,971] [] (B4 1#64 10 11) _ 14 Aj (by (simp only [DS,seval])) (by simp only [Oh,B4,seval]) ?_ ⟨rfl,rfl,rfl⟩
 simp only [BO,Ay,Cm,seval]
 intro j hj
 rcases (show j=0 ∨ j=1 by omega) with rfl | rfl <;> simp only [pt2,B4,Nat.one_ne_zero,Nat.lt_irrefl,Nat.sub_self,Nat.zero_lt_one,C2,LY,seval]
theorem ON (ok:OkHr M) (d:Int) :
 Af M 275 [.ptr 0 [],W 0#64] [(0,Ax (.sl 2 [] 0 2 3) d (.map 3) (.map 1)),(2,.ar 3 2 fun j=>if j=0 then B4 0#64 4 5 else B4 1#64 6 7),(6,BO.v)] 8
  (Q3 (B4 0#64 4 5) [(0,Ax (.sl 2 [] 0 2 3) d (.map 3) (.map 1)),(2,.ar 3 2 fun j=>if j=0 then B4 0#64 4 5 else B4 1#64 6 7),(6,BO.v)] 8):=by
 have z1:IntKind.i64.wrap 1=1:=rfl
 have z2:IntKind.i64.wrap 2=2:=rfl
 refine Ab ok.k275 rfl fun x hx=>?_
 refine es 2000 ?_;(simp only [PF,RM,Ax,B4,CP,Mc.v,BO,C7,seval])
 refine Au ?_
 refine es 2000 ?_
 (simp only [z1,Ax,B4,Mc.v,BO,C7,seval])
 repeat refine sd ?_
 refine Au ?_
 refine es 2000 ?_
 (simp only [z1,z2,Ax,B4,Mc.v,BO,C7,seval])
 repeat refine sd ?_
 refine Au ?_
 refine es 2000 ?_
 (simp only [z1,z2,Ax,B4,Mc.v,BO,C7,seval])
 repeat refine sd ?_
 refine Ap.mk hx [0,1,2,3,4,5,6,7] [] (B4 0#64 4 5) _ 8 Aj (by (simp only [DS,seval])) (by simp only [Oh,B4,seval]) ?_ ⟨rfl,rfl,rfl⟩
 simp only [LY,seval]
 intro j hj
 rcases (show j=0 ∨ j=1 by omega) with rfl | rfl <;> simp only [Nat.one_ne_zero,C2,LY,seval]
theorem PG (ok:OkHr M) (d:Int) :
 Af M 275 [.ptr 0 [],W 1#64] [(0,Ax (.sl 2 [] 0 2 3) d (.map 3) (.map 1)),(2,.ar 3 2 fun j=>if j=0 then B4 0#64 4 5 else B4 1#64 6 7),(6,BO.v)] 8
  (Q3 (B4 1#64 6 7) [(0,Ax (.sl 2 [] 0 2 3) d (.map 3) (.map 1)),(2,.ar 3 2 fun j=>if j=0 then B4 0#64 4 5 else B4 1#64 6 7),(6,BO.v)] 8):=by
 have z1:IntKind.i64.wrap 1=1:=rfl
 have z2:IntKind.i64.wrap 2=2:=rfl
 refine Ab ok.k275 rfl fun x hx=>?_
 refine es 2000 ?_;(simp only [PF,RM,Ax,B4,CP,Mc.v,BO,C7,seval])
 refine Au ?_
 refine es 2000 ?_
 (simp only [z1,Ax,B4,Mc.v,BO,C7,seval])
 repeat refine sd ?_
 refine Au ?_
 refine es 2000 ?_
 (simp only [z1,z2,Ax,B4,Mc.v,BO,C7,seval])
 repeat refine sd ?_
 refine Au ?_
 refine es 2000 ?_
 (simp only [z1,z2,Ax,B4,Mc.v,BO,C7,seval])
 repeat refine sd ?_
 refine Ap.mk hx [0,1,2,3,4,5,6,7] [] (B4 1#64 6 7) _ 8 Aj (by (simp only [DS,seval])) (by simp only [Oh,B4,seval]) ?_ ⟨rfl,rfl,rfl⟩
 simp only [LY,seval]
 intro j hj
 rcases (show j=0 ∨ j=1 by omega) with rfl | rfl <;> simp only [Nat.one_ne_zero,C2,LY,seval]
theorem Pb (ok:OkHr M) (d:Int) :
 Af M 275 [.ptr 0 [],W 2#64] [(0,Ax (.sl 2 [] 0 2 3) d (.map 3) (.map 1)),(2,.ar 3 2 fun j=>if j=0 then B4 0#64 4 5 else B4 1#64 6 7),(6,BO.v)] 8
  (Q3 (B4 1#64 6 7) [(0,Ax (.sl 2 [] 0 2 3) d (.map 3) (.map 1)),(2,.ar 3 2 fun j=>if j=0 then B4 0#64 4 5 else B4 1#64 6 7),(6,BO.v)] 8):=by
 have z1:IntKind.i64.wrap 1=1:=rfl
 have z2:IntKind.i64.wrap 2=2:=rfl
 refine Ab ok.k275 rfl fun x hx=>?_
 refine es 2000 ?_;(simp only [PF,RM,Ax,B4,CP,Mc.v,BO,C7,seval])
 refine Au ?_
 refine es 2000 ?_
 (simp only [z1,Ax,B4,Mc.v,BO,C7,seval])
 repeat refine sd ?_
 refine Au ?_
 refine es 2000 ?_
 (simp only [z1,z2,Ax,B4,Mc.v,BO,C7,seval])
 repeat refine sd ?_
 refine Au ?_
 refine es 2000 ?_
 (simp only [z1,z2,Ax,B4,Mc.v,BO,C7,seval])
 repeat refine sd ?_
 refine Ap.mk hx [0,1,2,3,4,5,6,7] [] (B4 1#64 6 7) _ 8 Aj (by (simp only [DS,seval])) (by simp only [Oh,B4,seval]) ?_ ⟨rfl,rfl,rfl⟩
 simp only [LY,seval]
 intro j hj
 rcases (show j=0 ∨ j=1 by omega) with rfl | rfl <;> simp only [Nat.one_ne_zero,C2,LY,seval]
end Mv
