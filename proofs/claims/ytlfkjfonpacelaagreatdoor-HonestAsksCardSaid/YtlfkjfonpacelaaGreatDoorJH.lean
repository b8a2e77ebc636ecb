/- A part. -/
import Derived.Test.YtlfkjfonpacelaaGreatDoorJG
set_option linter.all false
set_option maxRecDepth 20000
set_option maxHeartbeats 8000000
namespace Mv
open Go
def Hx (p:Nat→BitVec 64):V:=.ar 1 32 fun j=>W (p j)
def Zu (p:Nat→BitVec 64):List Dg:=(List.range 32).map fun j=>BN (p j)
def RQ (p:Nat→BitVec 64):Dg:=Hb (Zu p) 5 0
def eqK (p q:Nat→BitVec 64):Bool:=(List.range 32).all fun j=>decide (p j=q j)
theorem Afu {p q:Nat→BitVec 64}:eqK p q=true ↔ ∀ j,j < 32→p j=q j:=by
 simp [eqK]
theorem WF {p q:Nat→BitVec 64} (h:∀ j,j < 32→p j=q j):RQ p=RQ q:=by
 have:Zu p=Zu q:=List.map_congr_left fun j hj=>by rw [h j (List.mem_range.1 hj)]
 rw [RQ,RQ,this]
def HE (p:Nat→BitVec 64):List (Nat→BitVec 64)→Option Nat
 | []=>none
 | q :: r=>if eqK p q=true then some 0 else (HE p r).map (· + 1)
def kmZ:Nat→BitVec 64:=fun _=>0#64
def Et (l:List (Nat→BitVec 64)):V:=.mp l.length (fun j=>Hx (l.getD j kmZ)) (fun j=>dg (RQ (l.getD j kmZ)))
theorem Ah1 (p q:Nat→BitVec 64):AX (.ar 32 1 false .int) (Hx p) (Hx q)=eqK p q:=by
 simp only [AX,Hx,eqK,W]
 congr 1
 funext j;simp only [decide_eq_decide];constructor
 ·intro h;exact BitVec.eq_of_toNat_eq Aa
 ·intro h;rw [h]
theorem Pw (p q:Nat→BitVec 64):AR true (.ar 32 1 false .int) (Hx p) (Hx q)=True:=by
 simp [AR,Hx,W,V.isAgg]
theorem Fp (p:Nat→BitVec 64):(Hx p).solid=true:=rfl
theorem Oi (p:Nat→BitVec 64):(Hx p).size=32:=rfl
theorem TZ (p:Nat→BitVec 64):(Hx p).isAgg=true:=rfl
theorem QF (p:Nat→BitVec 64) (ks:Nat→V):∀ (l:List (Nat→BitVec 64)) (i:Nat),(∀ j,j < l.length→ks (i + j)=Hx (l.getD j kmZ))→HS (.ar 32 1 false .int) (Hx p) ks i l.length=(HE p l).map (i + ·)
 | [],_,_=>rfl
 | q :: r, i, h => by
   have h0:=h 0 B9;simp only [Nat.add_zero,List.getD_cons_zero] at h0
   have ih:=QF p ks r (i + 1) (fun j hj=>by
    have:=h (j + 1) (by simpa using hj);simp only [List.getD_cons_succ] at this
    rw [← this];congr 1;omega)
   simp only [List.length_cons,HS,h0,Ah1,HE];by_cases hk:eqK p q=true
   ·simp [hk]
   ·simp only [hk,To,ih,Option.map_map]
    congr 1
    funext j;simp only [Function.comp];omega
theorem O0 (p:Nat→BitVec 64) (l:List (Nat→BitVec 64)):HS (.ar 32 1 false .int) (Hx p) (fun j=>Hx (l.getD j kmZ)) 0 l.length=HE p l:=by
 rw [QF p _ l 0 (fun j _=>by rw [Nat.zero_add])];cases HE p l <;> simp
theorem Q0 (p:Nat→BitVec 64):∀ (l:List (Nat→BitVec 64)) (i:Nat),HE p l=some i→RQ (l.getD i kmZ)=RQ p
 | [],_,h=>by cases h
 | q :: r, i, h => by
   rw [HE] at h;by_cases hk:eqK p q=true
   ·rw [if_pos hk] at h;cases h;exact WF fun j hj=>(Afu.1 hk j hj).symm
   ·rw [if_neg hk] at h;cases hr:HE p r with
    | none=>rw [hr] at h;cases h
    | some k =>
      rw [hr] at h;cases h;exact Q0 p r k hr
theorem VS (z:Z) (hh:Bool) (l:List (Nat→BitVec 64)) (p:Nat→BitVec 64) (H:Hp) (i:Nat) (h:HE p l=some i):Df (.ar 32 1 false .int) z true hh (Et l) (Hx p) H=⟨hh=true,.tup (.fcons 0 (dg (RQ p)) (.fcons 1 (.bool true) .fnil)),H⟩:=by
 simp only [Df,Et,O0,h,Fp,Pw,implies_true,Jb,if_true,Q0 p l i h]
theorem Xq (z:Z) (hh:Bool) (l:List (Nat→BitVec 64)) (p:Nat→BitVec 64) (H:Hp) (h:HE p l=none):Df (.ar 32 1 false .int) z true hh (Et l) (Hx p) H=⟨hh=true,.tup (.fcons 0 (z.v 0) (.fcons 1 (.bool false) .fnil)),H⟩:=by
 simp only [Df,Et,O0,h,Fp,Pw,implies_true,Jb,if_true]
theorem NP {α:Type} (l:List α) (x d:α) (j:Nat):(l ++ [x]).getD j d=if j=l.length then x else l.getD j d:=by
 simp only [List.getD_eq_getElem?_getD];by_cases h:j < l.length
 ·rw [List.getElem?_append_left h,if_neg Aa]
 ·by_cases h2:j=l.length
  ·subst h2;simp
  ·rw [if_neg h2,List.getElem?_append_right Aa,List.getElem?_eq_none FY,List.getElem?_eq_none Aa]
theorem YQ (hh:Bool) (l:List (Nat→BitVec 64)) (p:Nat→BitVec 64) (id:Nat) (H:Hp) (h:HE p l=none):Hh (.ar 32 1 false .int) hh (Et l) (Hx p) (dg (RQ p)) id H=⟨hh=true,.tup .fnil,CA H id (Et (l ++ [p]))⟩:=by
 have e:Et (l ++ [p]) = .mp (l.length + 1) (fun j=>if j=l.length then Hx p else Hx (l.getD j kmZ)) (fun j=>if j=l.length then dg (RQ p) else dg (RQ (l.getD j kmZ))):=by
  simp only [Et,List.length_append,List.length_singleton,NP]
  congr 1
  ·funext j;split <;> rfl
  ·funext j;split <;> rfl
 rw [e];simp only [Hh,Et,O0,h,Fp,D4,Pw,Option.getD_none,implies_true,Jb]
theorem AE (m:List Nat) (l:List (Nat→BitVec 64)):(Et l).ren m=Et l:=by
 simp only [Et,V.ren,Bt,Hx,W]
theorem Ah (H:Hp) (m z:List Nat) (l:List (Nat→BitVec 64)):Ay H m z (Et l) (Et l)=True:=by
 refine eq_true ?_;simp only [Et,Ay,true_and];exact fun i _=>⟨by simp [Hx,Ay,W],(AJ _ _ _ _ _).mpr rfl⟩
def Alx (l:List (Nat→BitVec 64)) (p:Nat→BitVec 64):List (Nat→BitVec 64):=match HE p l with
 | some _=>l
 | none=>l ++ [p]
theorem VY (w:BitVec 64) (j:Nat) (hj:j < 32):(BN w).at j=if 24≤j∧j < 24 + 8 then X5 w (j - 24) else 0#8:=by
 rw [BN,Dg.at_mk' _ j hj];by_cases h:j < 24
 ·rw [if_pos h,if_neg Aa];rfl
 ·rw [if_neg h,if_pos Aa];rfl
theorem Xf {M:Seat} (hc:Ar M 312 PH=true) (F:Nat→Dg) (k:Nat) (hk:k < 32) (hF:F k=Dg.zero) (w:BitVec 64) :
 Ae M 312 [.sl 0 [.i 32 k] 24 8 1,W w] [(0,.ar 32 32 fun j=>dg (F j))] 1 (Q3 (.tup .fnil) [(0,.ar 32 32 fun j=>dg (if j=k then BN w else F j))] 1):=by
 refine Ab hc rfl fun x hx=>?_;refine eX ?_;simp only [PH,Alm,LZ,seval];refine Am (σ:=Nat) (fun i=>i≤8) (fun i=>fr 18 [(0,.sl 0 [.i 32 k] 24 8 1),(1,W w),(5,.int .i64 i)])
  (fun i=>[(0,.ar 32 32 fun j=>.ar 1 32 fun q=>B (if j=k∧24≤q∧q < 24 + i then X5 w (q - 24) else (F j).at q))]) (fun _=>1) (fun i=>8 - i) 0 Aa ?_ ?_
 ·refine Ak.fr [0] [] hx AG Al ?_ ?_
  ·simp only [Int.natCast_zero,LY,seval]
  ·simp only [dg,LY,seval];intro j hj q hq;rw [if_neg Aa]
 ·intro i hi;refine eX ?_;by_cases h8:i=8
  ·subst h8;have d0:(((8:Nat):Int) < 8)=False:=eq_false Aa;simp only [d0,LZ,seval];refine Ap.mk hx [0] [] (.tup .fnil) _ 1 Al (by (simp only [Di,seval])) (by simp only [LV,LY,seval]) ?_ ⟨rfl,rfl,rfl⟩;simp only [dg,LY,seval];intro j hj q hq;by_cases hjk:j=k
   ·subst hjk;rw [if_pos rfl,VY w q hq,hF,Dg.at_zero];by_cases h:24≤q∧q < 24 + 8
    ·rw [if_pos h,if_pos ⟨rfl,h⟩]
    ·rw [if_neg h,if_neg (fun h2=>h h2.2)];rfl
   ·rw [if_neg hjk,if_neg (fun h2=>hjk h2.1)]
  ·have d0:((i:Int) < 8)=True:=eq_true Aa;have d1:(0≤(i:Int))=True:=eq_true Aa;have w1:IntKind.i64.wrap (8 * (i:Int))=((8 * i:Nat):Int):=AW;have w2:IntKind.i64.wrap (56 - ((8 * i:Nat):Int))=((56 - 8 * i:Nat):Int):=AW;have w3:IntKind.i64.wrap ((i:Int) + 1)=((i + 1:Nat):Int):=AW;simp only [d0,d1,w1,w2,w3,LZ,seval];refine ⟨by omega,hk,by omega,i + 1,by omega,by omega,?_⟩;refine Ak.fr [0] [] hx AG Al ?_ ?_
   ·simp only [LY,seval]
   ·simp only [LY,seval];intro j hj;by_cases hjk:j=k
    ·subst hjk;simp only [if_true,true_and,LY,seval];intro q hq;by_cases h1:q=24 + i
     ·rw [if_pos h1,if_pos Aa,h1,show 24 + i - 24=i by omega];exact (K8 _ _ _ _ _).mpr rfl
     ·rw [if_neg h1];by_cases h2:24≤q∧q < 24 + i
      ·rw [if_pos h2,if_pos Aa];exact (K8 _ _ _ _ _).mpr rfl
      ·rw [if_neg h2,if_neg Aa];exact (K8 _ _ _ _ _).mpr rfl
    ·simp only [hjk,false_and,if_false,LY,seval]
def Aw (pts:V) (d:Int) (kn pm:V):V:=.st 4 (.fcons 0 pts (.fcons 1 (.int .i64 d) (.fcons 2 kn (.fcons 3 pm .fnil))))
structure OkHp (M:Seat):Prop where
 m:OkM M
 k312:Ar M 312 PH=true
 k363:Ar M 363 Aoq=true
theorem U4 (p:Nat→BitVec 64):(Zu p).length=32:=by simp [Zu]
theorem Zm (p:Nat→BitVec 64) (j:Nat) (hj:j < 32):(Zu p).getD j Dg.zero=BN (p j):=by
 simp [Zu,List.getD,hj]
theorem T3 {M:Seat} (ok:OkHp M) (p:Nat→BitVec 64) (n:Nat) (d:Int) (l:List (Nat→BitVec 64)) (i:Nat) (h:HE p l=some i) :
 Ae M 363 [.ptr 0 [],Hx p] [(0,Aw (.sl 2 [] 0 n 3) d (.map 3) (.map 1)),(1,Et l)] 4 (Q3 (dg (RQ p)) [(0,Aw (.sl 2 [] 0 n 3) d (.map 3) (.map 1)),(1,Et l)] 4):=by
 refine Ab ok.k363 rfl fun x hx=>?_;have hl:=fun z hh H=>VS z hh l p H i h;refine eX ?_;simp only [Aoq,Ao1,Aw,Fp,Oi,TZ,hl,Bn,seval];repeat refine sd ?_
 have zz:=Cv @Aw.eq_1 @Ah @b7;exact AI hx [0,1,2,3] ⟨rfl,rfl,rfl⟩
theorem Tp {M:Seat} (ok:OkHp M) (p:Nat→BitVec 64) (n:Nat) (d:Int) (l:List (Nat→BitVec 64)) (h:HE p l=none) :
 Ae M 363 [.ptr 0 [],Hx p] [(0,Aw (.sl 2 [] 0 n 3) d (.map 3) (.map 1)),(1,Et l)] 4 (Q3 (dg (RQ p)) [(0,Aw (.sl 2 [] 0 n 3) d (.map 3) (.map 1)),(1,Et (l ++ [p]))] 4):=by
 refine Ab ok.k363 rfl fun x hx=>?_;have hl:=fun z hh H=>Xq z hh l p H h;have hu:=fun hh id H=>YQ hh l p id H h;have hR:=GR ok.m 5 Al (Zu p) (by simp [Zu]);rw [show Hb (Zu p) 5 0=RQ p from rfl] at hR;have zq:V.ar 1 32 (fun _=>B 0#8)=dg Dg.zero:=by simp only [dg,Dg.at_zero];rfl
 refine eX ?_;simp only [Aoq,Ao1,Aw,Fp,Oi,TZ,hl,Bn,seval];repeat refine sd ?_
 refine Am (σ:=Nat) (fun i=>i≤32) (fun i=>fr 44 [(0,.ptr 0 []),(3,.ptr 4 []),(4,.ptr 5 []),(5,.ptr 6 []),(7,.ptr 7 []),(21,.ar 1 32 fun j=>W (p j)),(22,.int .i64 i)])
  (fun i=>[(0,Aw (.sl 2 [] 0 n 3) d (.map 3) (.map 1)),(1,Et l),(4,Hx p),(5,dg Dg.zero),(6,dg Dg.zero),(7,.ar 32 32 fun j=>dg (if j < i then BN (p j) else Dg.zero))]) (fun _=>8) (fun i=>32 - i) 0 Aa ?_ ?_
 ·refine Ak.fr [0,1,2,3,4,20,164,452] [] hx AG Al ?_ ?_
  ·simp only [Hx,Int.natCast_zero,LY,seval]
  ·simp only [Aw,Ah,Hx,dg,Dg.at_zero,Nat.not_lt_zero,if_false,LY,seval]
 ·intro i hi;refine eX ?_;by_cases h32:i=32
  ·subst h32;have d0:(((32:Nat):Int) < 32)=False:=eq_false Aa;simp only [d0,Aw,LZ,seval];refine cpK (hR) (by (try simp only [row,U4,Fw,dg,LY,seval]) <;> first | exact q1 | (intro j hj q _;rw [if_pos hj,Zm p j hj])) (by simp only [row,U4,Fw,dg,LX]) ?_;simp only [Cz,Aw,Fp,Oi,TZ,hu,seval];repeat refine sd ?_
   have zz:=Cv @Aw.eq_1 @Ah @b7;exact AI hx [0,1,2,3] ⟨rfl,rfl,rfl⟩
  ·have d0:((i:Int) < 32)=True:=eq_true Aa;have d1:(0≤(i:Int))=True:=eq_true Aa;have w3:IntKind.i64.wrap ((i:Int) + 1)=((i + 1:Nat):Int):=AW;have hP:=Xf ok.k312 (fun j=>if j < i then BN (p j) else Dg.zero) i Aa (if_neg (Nat.lt_irrefl _)) (p i);simp only [d0,d1,Aw,Bn,seval];repeat refine sd ?_
   have zz:=@b7;refine GY [7] (hP) ?_;simp only [w3,Aw,LZ,seval];repeat refine sd ?_
   refine ⟨i + 1,by omega,by omega,?_⟩;refine Ak.fr [0,1,2,3,4,5,6,7] [] hx AG Al ?_ ?_
   ·simp only [LY,seval]
   ·simp only [Aw,Ah,Hx,dg,LY,seval];intro j hj q _;by_cases h1:j=i
    ·rw [if_pos h1,if_pos Aa,h1]
    ·rw [if_neg h1];by_cases h2:j < i
     ·rw [if_pos h2,if_pos Aa]
     ·rw [if_neg h2,if_neg Aa]
def g8:=@Aw.eq_1
theorem NB {M:Seat} (ok:OkHp M) (p:Nat→BitVec 64) (n:Nat) (d:Int) (l:List (Nat→BitVec 64)) :
 Ae M 363 [.ptr 0 [],Hx p] [(0,Aw (.sl 2 [] 0 n 3) d (.map 3) (.map 1)),(1,Et l)] 4 (Q3 (dg (RQ p)) [(0,Aw (.sl 2 [] 0 n 3) d (.map 3) (.map 1)),(1,Et (Alx l p))] 4):=by
 unfold Alx;cases h:HE p l with
 | none=>exact Tp ok p n d l h
 | some i=>exact T3 ok p n d l i h
def WE (f:Nat→BitVec 64) (i j:Nat):BitVec 64:=f (32 * i + j)
def oK (f:Nat→BitVec 64) (l:List (Nat→BitVec 64)):Nat→List (Nat→BitVec 64)
 | 0=>l
 | i + 1=>Alx (oK f l i) (WE f i)
theorem OF (f:Nat→BitVec 64) (i:Nat):∀ h q,2 ^ h * (q + 1)≤32→i < 256→Hb (Zu (WE f i)) h q=Cd f h (2 ^ (5 - h) * i + q)
 | 0, q, hq, hi => by
   rw [Sz,Zm _ _ Aa,Cd,if_pos Aa];rfl
 | h + 1, q, hq, hi => by
   have e:2 ^ (h + 1)=2 * 2 ^ h:=KX;have h5:h + 1≤5:=by
    refine Classical.byContradiction fun hc=>?_;have:2 ^ 6≤2 ^ (h + 1):=Nat.pow_le_pow_right Al Aa;have:2 ^ (h + 1) * 1≤2 ^ (h + 1) * (q + 1):=Nat.mul_le_mul_left _ Aa;omega
   have e2:2 ^ (5 - h)=2 * 2 ^ (5 - (h + 1)):=by rw [show 5 - h=(5 - (h + 1)) + 1 by omega,Nat.pow_succ];omega
   have e3:2 ^ (h + 1) * (q + 1)=2 ^ h * (2 * q + 2):=Arl;have e4:2 ^ h * (2 * q + 1)≤2 ^ h * (2 * q + 2):=Nat.mul_le_mul_left _ Aa;have e6:2 ^ h * (2 * q + 1 + 1)=2 ^ h * (2 * q + 2):=rfl;rw [IZ,OF f i h (2 * q) Aa hi,OF f i h (2 * q + 1) Aa hi,Cd,e2];generalize 2 ^ (5 - (h + 1))=c;have e5:2 * (c * i + q)=2 * c * i + 2 * q:=by rw [Nat.mul_add,Nat.mul_assoc]
   rw [e5,Nat.add_assoc]
theorem K3 (f:Nat→BitVec 64) (i:Nat) (hi:i < 256):RQ (WE f i)=Cd f 5 i:=by
 have:=OF f i 5 0 Al hi;simpa [RQ] using this
def rtL (f:Nat→BitVec 64):List Dg:=(List.range 256).map fun i=>Cd f 5 i
theorem GF (f:Nat→BitVec 64):(rtL f).length=256:=by simp [rtL]
theorem Tw (f:Nat→BitVec 64) (j:Nat) (hj:j < 256):(rtL f).getD j Dg.zero=Cd f 5 j:=by
 simp [rtL,List.getD,hj]
theorem Kr (f:Nat→BitVec 64):∀ h q,2 ^ h * (q + 1)≤256→Hb (rtL f) h q=Cd f (5 + h) q
 | 0,q,hq=>by rw [Sz,Tw _ _ Aa]
 | h + 1, q, hq => by
   have e:2 ^ (h + 1)=2 * 2 ^ h:=KX;have e3:2 ^ (h + 1) * (q + 1)=2 ^ h * (2 * q + 2):=Arl;have e4:2 ^ h * (2 * q + 1)≤2 ^ h * (2 * q + 2):=Nat.mul_le_mul_left _ Aa;have e6:2 ^ h * (2 * q + 1 + 1)=2 ^ h * (2 * q + 2):=rfl;rw [IZ,Kr f h (2 * q) Aa,Kr f h (2 * q + 1) Aa];rfl
structure OkHo (M:Seat):Prop where
 p:OkHp M
 d:OkD M
 k274:Ar M 274 Alr=true
theorem Up {M:Seat} (ok:OkHo M) (f g:Nat→BitVec 64) (pc:BitVec 64) (hl:Bool) (xt:BitVec 64) (n:Nat) (d:Int) (l:List (Nat→BitVec 64)) :
 Ae M 274 [.ptr 0 [],.ptr 4 []] [(0,Aw (.sl 2 [] 0 n 3) d (.map 3) (.map 1)),(1,Et l),(4,mach f g pc hl xt)] 5 (Q3 (Ai (dg (BP (Cd f 13 0) (D2 g pc hl xt))) .nili) [(0,Aw (.sl 2 [] 0 n 3) d (.map 3) (.map 1)),(1,Et (oK f l 256)),(4,mach f g pc hl xt)] 5):=by
 have hP:=fun i=>NB ok.p (WE f i) n d (oK f l i);have hR:=GR ok.p.m 8 Al (rtL f) (by rw [GF];decide);rw [Kr f 8 0 Al] at hR;have hH:=Dz ok.d f g pc hl xt;have hJ:=DV ok.p.m ok.d (Cd f (5 + 8) 0) g pc hl xt;simp only [mach,Ba] at hH hJ;refine Ab ok.k274 rfl fun x hx=>?_;refine eX ?_;simp only [Alr,Aj5,Aw,CP,seval];have w32:IntKind.i64.wrap 32=32:=rfl;have hP0:=hP 0;have e00:∀ j,WE f 0 j=f (0 + j):=fun j=>by rw [WE,Nat.mul_zero]
 refine A5 ?_;refine eX ?_;simp only [w32,Aw,CP,seval];repeat refine sd ?_
 have zz:=Qe @g8 @Hx.eq_1 @WE.eq_1 @oK.eq_1 @oK.eq_2 Nat.mul_zero @Nat.zero_add @Ah;refine By [0,1,2,3] [0,1] (hP0) ?_;simp only [Aw,AE,w32,Bn,seval];repeat refine sd ?_
 refine Am (σ:=Nat) (fun i=>1≤i∧i≤256) (fun i=>fr 44 [(0,.ptr 0 []),(1,.ptr 4 []),(4,.ptr 5 []),(5,.nili),(6,.sl 6 [] 0 i 32),(7,.int .i64 ((32 * i:Nat):Int))])
  (fun i=>[(0,Aw (.sl 2 [] 0 n 3) d (.map 3) (.map 1)),(1,Et (oK f l i)),(4,mach f g pc hl xt),(5,dg Dg.zero),(6,.ar 32 i fun j=>dg (Cd f 5 j))]) (fun _=>7) (fun i=>256 - i) 1 ⟨by omega,by omega⟩ ?_ ?_
 ·refine Ak.fr [0,1,2,3,4,5,309] [] hx AG Al ?_ ?_
  ·simp only [Nat.mul_one,seval,Int.cast_ofNat_Int,LY,reduceCtorEq]
  ·simp only [Aw,oK,Ah,mach,K3 f 0 Al,dg,Dg.at_zero,LY,seval];intro j hj;obtain rfl:j=0:=Aa;simp only [if_true,LY,seval]
 ·rintro i ⟨h1,hi⟩;refine eX ?_;by_cases h256:i=256
  ·subst h256;have d0:(((32 * 256:Nat):Int) < 8192)=False:=eq_false Aa;simp only [d0,Aw,CP,seval];refine cpK (hR) (by (try simp only [row,GF,Fw,dg,LY,seval]) <;> first | exact q1 | (intro j hj q _;rw [Tw f j hj])) (by simp only [row,GF,Fw,dg,LX]) ?_;simp only [Bb,Aw,mach,seval];have zz:=EZ @b7 @l9 @AF.eq_2 @AF.eq_3 @AF.eq_4 @AF.eq_5 @AF.eq_6 @AF.eq_7 @AF.eq_8 @AF.eq_9 @AF.eq_10 @AF.eq_11;refine Dh (hH) ?_;simp only [Bb,Aw,mach,seval];have zz:=@b7;refine Dh (hJ) ?_;simp only [Aw,CP,seval];have zz:=D0 @g8 @Ah @b7 @d9;exact AI hx [0,1,2,3,4] ⟨rfl,rfl,rfl⟩
  ·have d0:(((32 * i:Nat):Int) < 8192)=True:=eq_true Aa;have d1:(0≤((32 * i:Nat):Int))=True:=eq_true Aa;have w3:IntKind.i64.wrap (((32 * i:Nat):Int) + 32)=((32 * (i + 1):Nat):Int):=AW;have hPi:=hP i;simp only [d0,d1,w3,Aw,CP,seval];repeat refine sd ?_
   have zz:=D0 @g8 @Hx.eq_1 @WE.eq_1 @Ah;refine By [0,1,2,3] [0,1] (hPi) ?_;simp only [w3,Aw,AE,Bn,seval];repeat refine sd ?_
   refine ⟨i + 1,by omega,by omega,by omega,?_⟩;refine Ak.fr [0,1,2,3,4,5,247] [] hx AG Al ?_ ?_
   ·simp only [LY,seval]
   ·simp only [Aw,oK,Ah,mach,K3 f i Aa,dg,LY,seval];intro j hj;by_cases hji:j < i
    ·simp only [hji,if_true,LY,seval]
    ·obtain rfl:j=i:=Aa;simp only [Nat.lt_irrefl,Nat.sub_self,B4,LY,seval]
def Mc.com (m:Mc):Dg:=Avw m.f m.g m.pc m.hl m.xt
def CJ (pres:List (Dg × Pr)) (m:Mc):Option Int × List Pf × Pr :=
 if m.hl=true then (none,[],Pr.zero) else if 8192#64≤m.pc then (none,[],Pr.zero)
 else ((nx (Ks pres) m.h ⟨m.f,[],Pr.zero⟩).2.1,(nx (Ks pres) m.h ⟨m.f,[],Pr.zero⟩).2.2.l,(nx (Ks pres) m.h ⟨m.f,[],Pr.zero⟩).2.2.pre)
theorem Xh {M:Seat} (ok:OkOs M) (m:Mc) (pres:List (Dg × Pr)) (q:Nat) :
 Ae M 97 [.ptr 0 [],.ptr 1 []] [(0,m.v),(1,Q2 (.nils)),(2,BG AL Pr.zero pres)] 5
  (Q3 (P7 m (CJ pres m).1 (CJ pres m).2.1 (CJ pres m).2.2) [(0,m.v),(1,Q2 (.nils)),(2,BG AL Pr.zero pres)] 5):=by
 obtain ⟨f,g,pc,hl,xt⟩:=m;unfold CJ;cases hl with
 | true=>rw [if_pos rfl];exact TY ok f g pc xt pres q
 | false =>
   rw [if_neg B9];by_cases hpc:8192#64≤pc
   ·rw [if_pos hpc];exact Rj ok f g pc xt hpc pres q
   ·rw [if_neg hpc];generalize hq:nx (Ks pres) (⟨f,g,pc,false,xt⟩:Mc).h ⟨f,[],Pr.zero⟩=r;obtain ⟨h1,e,s1⟩:=r;exact VV ok f g pc xt hpc pres q h1 e s1 hq
def BL:Mc:=⟨fun _=>0#64,fun _=>0#64,0#64,false,0#64⟩
def Cb:Mc:=⟨fun _=>0#64,fun _=>0#64,0#64,true,0#64⟩
theorem Avs:isI 0#64=true:=Al
theorem Ar9:Cj 0#64=0:=Al
theorem nx0 (pres:List (Dg × Pr)):nx (Ks pres) BL.h ⟨BL.f,[],Pr.zero⟩=(Cb.h,none,⟨BL.f,[BD BL.f 0#64],Pr.zero⟩):=by
 show Ox (Ks pres) BL.h 0#64 ⟨BL.f,[BD BL.f 0#64],Pr.zero⟩=_;rw [Ox,if_neg (by rw [Avs];simp),if_pos Ar9];rfl
theorem Asm (pres:List (Dg × Pr)):CJ pres BL=(none,[BD BL.f 0#64],Pr.zero):=by
 rw [CJ,if_neg (by simp [BL]),if_neg Al,nx0]
def Dn (a b c:Nat):V:=.st 4 (.fcons 0 (.map a) (.fcons 1 (.ptr b []) (.fcons 2 (.map c) (.fcons 3 .nils .fnil))))
def BM (at':BitVec 64) (mp sp:Nat):V:=.st 3 (.fcons 0 (W at') (.fcons 1 (.ptr mp []) (.fcons 2 (.ptr sp []) .fnil)))
def VZ:V:=.mp 0 (fun _=>W 0#64) (fun _=>dg Dg.zero)
theorem Af1 (H:Hp) (m z:List Nat) (ks vs:Nat→V):Ay H m z (Et []) (.mp 0 ks vs)=True:=by
 simp only [Et,Ay,List.length_nil,Nat.not_lt_zero,false_implies,implies_true,and_self]
theorem Aee (H:Hp) (m z:List Nat) (ks vs:Nat→V):Ay H m z VZ (.mp 0 ks vs)=True:=by
 simp only [VZ,Ay,Nat.not_lt_zero,false_implies,implies_true,and_self]
structure OkHn (M:Seat):Prop where
 o:OkHo M
 p:OkPr M
 k152:Ar M 152 Aq5=true
theorem K7 {M:Seat} (ok:OkHn M) (f g:Nat→BitVec 64) (pc:BitVec 64) (hl:Bool) (xt:BitVec 64) (pres:List (Dg × Pr)) (d:Int) (hd:1≤d∧d≤20) :
 Ae M 152 [.ptr 0 [],.ptr 1 [],.int .i64 d] [(0,mach f g pc hl xt),(1,Dn 2 3 4),(2,BG AL Pr.zero pres)] 5 (Q3 (Ai (.ptr 5 []) .nili) [(0,mach f g pc hl xt),(1,Dn 2 3 4),(2,BG AL Pr.zero pres),(5,Aw (.sl 6 [] 0 1 3) d (.map 7) (.map 8)),(6,.ar 3 1 fun _=>BM 0#64 9 10),(7,VZ),(8,Et []),(9,mach f g pc hl xt),(10,Dn 11 3 12),(11,BG AL Pr.zero pres),(12,Cs [])] 13):=by
 have h1:(d < 1)=False:=eq_false Aa;have h2:(20 < d)=False:=eq_false Aa;have hC:=CX ok.o.p.m f g pc hl xt;have hS:=Fb ok.p 0 pres;refine Ab ok.k152 rfl fun x hx=>?_;refine eX ?_;simp only [Aq5,Asi,h1,h2,CP,Dn,seval];have zz:=@c7;refine Jp (hC) ?_;simp only [CP,Dn,seval];have zz:=@Cg;refine By [1,2,3,4] [1,2] (hS) ?_;simp only [Dn,A3,Bn,seval];refine Ap.mk hx [0,1,2,3,4,469,389,421,437,277,309,310,311] [] (Ai (.ptr 5 []) .nili) _ 13 Al (by (simp only [Di,seval])) (by simp only [LV,Ai,LY,seval]) ?_ ⟨rfl,rfl,rfl⟩;simp only [Aw,BM,mach,Dn,Af1,Aee,Bf,BI,seval];intro j hj;obtain rfl:j=0:=Aa;simp only [if_true,LY,seval]
theorem W1 {M:Seat} (ok:OkV M):Ae M 71 [.ptr 0 [],.ptr 1 [],.int .i64 1] [(0,BL.v)] 2 (Q3 (Ai (.int .i64 1) .nili) [(0,Cb.v)] 2):=by
 have hS:=Fg ok BL.f BL.g BL.pc BL.xt Al 0#64 rfl Ar9 Al
 have h:=XE ok (fun i=>if i=0 then BL else Cb) 1 1 Al Al (fun i hi=>by
  obtain rfl:i=0:=Aa
  exact ⟨rfl,hS⟩) (.inl rfl)
 exact h
variable {M:Seat}
structure OkHr (M:Seat):Prop where
 n:OkHn M
 v:OkV M
 k275:Ar M 275 Rp=true
def pt2 (j:Nat):V:=if j=0 then BM 0#64 4 5 else BM 1#64 10 11
theorem RP (ok:OkHr M) (pres:List (Dg × Pr)) (d:Int) :
 Ae M 275 [.ptr 0 [],W 1#64] [(0,Aw (.sl 2 [] 0 1 3) d (.map 3) (.map 1)),(2,.ar 3 1 fun _=>BM 0#64 4 5),(4,BL.v),(5,Dn 6 7 8),(6,BG AL Pr.zero pres)] 9
  (Q3 (BM 1#64 10 11) [(0,Aw (.sl 9 [] 0 2 3) d (.map 3) (.map 1)),(4,BL.v),(5,Dn 6 7 8),(6,BG AL Pr.zero pres),(9,.ar 3 2 pt2),(10,Cb.v),(11,Dn 12 7 13),(12,BG AL Pr.zero pres),(13,Cs [])] 14):=by
 have hC:=CX ok.n.o.p.m BL.f BL.g BL.pc BL.hl BL.xt;have hS:=Fb ok.n.p 0 pres;have hR:=W1 ok.v;have z1:IntKind.i64.wrap 1=1:=rfl;simp only [Mc.v,BL,Cb,mach] at hC hR;refine Ab ok.k275 rfl fun x hx=>?_;refine eX ?_;simp only [Rp,S6,Aw,BM,Dn,Mc.v,BL,CP,seval];refine A5 ?_;refine eX ?_;simp only [Aw,BM,Dn,Mc.v,BL,CP,seval];repeat refine sd ?_
 refine A5 ?_;refine eX ?_;simp only [z1,Aw,BM,Dn,Mc.v,BL,CP,seval];repeat refine sd ?_
 have zz:=@c7;refine ofY (hC) ?_;simp only [Aw,BM,Dn,CP,seval];have zz:=@Cg;refine G6 [5,6,7,8] [5,6] (hS) ?_;simp only [Aw,BM,Dn,A3,Bn,seval];have zz:=@c7;refine By [921,969] [921] (hR) ?_;simp only [Cz,Aw,BM,Dn,seval];refine Ap.mk hx [0,1,2,3,4,5,6,7,8,1769,921,969,970,971] [] (BM 1#64 10 11) _ 14 Al (by (simp only [Di,seval])) (by simp only [KR,BM,seval]) ?_ ⟨rfl,rfl,rfl⟩;simp only [Cb,Bf,BI,seval];intro j hj;rcases (show j=0 ∨ j=1 by omega) with rfl | rfl <;> simp only [pt2,BM,Nat.one_ne_zero,Nat.lt_irrefl,Nat.sub_self,Nat.zero_lt_one,B4,LY,seval]
theorem RI (ok:OkHr M) (d:Int) :
 Ae M 275 [.ptr 0 [],W 0#64] [(0,Aw (.sl 2 [] 0 2 3) d (.map 3) (.map 1)),(2,.ar 3 2 fun j=>if j=0 then BM 0#64 4 5 else BM 1#64 6 7),(6,Cb.v)] 8
  (Q3 (BM 0#64 4 5) [(0,Aw (.sl 2 [] 0 2 3) d (.map 3) (.map 1)),(2,.ar 3 2 fun j=>if j=0 then BM 0#64 4 5 else BM 1#64 6 7),(6,Cb.v)] 8):=by
 have z1:IntKind.i64.wrap 1=1:=rfl;have z2:IntKind.i64.wrap 2=2:=rfl;refine Ab ok.k275 rfl fun x hx=>?_;refine eX ?_;simp only [Rp,S6,Aw,BM,Dn,Mc.v,Cb,CP,seval];refine A5 ?_;refine eX ?_;simp only [z1,Aw,BM,Mc.v,Cb,CP,seval];repeat refine sd ?_
 refine A5 ?_;refine eX ?_;simp only [z1,z2,Aw,BM,Mc.v,Cb,CP,seval];repeat refine sd ?_
 refine A5 ?_;refine eX ?_;simp only [z1,z2,Aw,BM,Mc.v,Cb,CP,seval];repeat refine sd ?_
 refine Ap.mk hx [0,1,2,3,4,5,6,7] [] (BM 0#64 4 5) _ 8 Al (by (simp only [Di,seval])) (by simp only [KR,BM,seval]) ?_ ⟨rfl,rfl,rfl⟩;simp only [LY,seval];intro j hj;rcases (show j=0 ∨ j=1 by omega) with rfl | rfl <;> simp only [Nat.one_ne_zero,B4,LY,seval]
theorem RK (ok:OkHr M) (d:Int) :
 Ae M 275 [.ptr 0 [],W 1#64] [(0,Aw (.sl 2 [] 0 2 3) d (.map 3) (.map 1)),(2,.ar 3 2 fun j=>if j=0 then BM 0#64 4 5 else BM 1#64 6 7),(6,Cb.v)] 8
  (Q3 (BM 1#64 6 7) [(0,Aw (.sl 2 [] 0 2 3) d (.map 3) (.map 1)),(2,.ar 3 2 fun j=>if j=0 then BM 0#64 4 5 else BM 1#64 6 7),(6,Cb.v)] 8):=by
 have z1:IntKind.i64.wrap 1=1:=rfl;have z2:IntKind.i64.wrap 2=2:=rfl;refine Ab ok.k275 rfl fun x hx=>?_;refine eX ?_;simp only [Rp,S6,Aw,BM,Dn,Mc.v,Cb,CP,seval];refine A5 ?_;refine eX ?_;simp only [z1,Aw,BM,Mc.v,Cb,CP,seval];repeat refine sd ?_
 refine A5 ?_;refine eX ?_;simp only [z1,z2,Aw,BM,Mc.v,Cb,CP,seval];repeat refine sd ?_
 refine A5 ?_;refine eX ?_;simp only [z1,z2,Aw,BM,Mc.v,Cb,CP,seval];repeat refine sd ?_
 refine Ap.mk hx [0,1,2,3,4,5,6,7] [] (BM 1#64 6 7) _ 8 Al (by (simp only [Di,seval])) (by simp only [KR,BM,seval]) ?_ ⟨rfl,rfl,rfl⟩;simp only [LY,seval];intro j hj;rcases (show j=0 ∨ j=1 by omega) with rfl | rfl <;> simp only [Nat.one_ne_zero,B4,LY,seval]
theorem Ra (ok:OkHr M) (d:Int) :
 Ae M 275 [.ptr 0 [],W 2#64] [(0,Aw (.sl 2 [] 0 2 3) d (.map 3) (.map 1)),(2,.ar 3 2 fun j=>if j=0 then BM 0#64 4 5 else BM 1#64 6 7),(6,Cb.v)] 8
  (Q3 (BM 1#64 6 7) [(0,Aw (.sl 2 [] 0 2 3) d (.map 3) (.map 1)),(2,.ar 3 2 fun j=>if j=0 then BM 0#64 4 5 else BM 1#64 6 7),(6,Cb.v)] 8):=by
 have z1:IntKind.i64.wrap 1=1:=rfl;have z2:IntKind.i64.wrap 2=2:=rfl;refine Ab ok.k275 rfl fun x hx=>?_;refine eX ?_;simp only [Rp,S6,Aw,BM,Dn,Mc.v,Cb,CP,seval];refine A5 ?_;refine eX ?_;simp only [z1,Aw,BM,Mc.v,Cb,CP,seval];repeat refine sd ?_
 refine A5 ?_;refine eX ?_;simp only [z1,z2,Aw,BM,Mc.v,Cb,CP,seval];repeat refine sd ?_
 refine A5 ?_;refine eX ?_;simp only [z1,z2,Aw,BM,Mc.v,Cb,CP,seval];repeat refine sd ?_
 refine Ap.mk hx [0,1,2,3,4,5,6,7] [] (BM 1#64 6 7) _ 8 Al (by (simp only [Di,seval])) (by simp only [KR,BM,seval]) ?_ ⟨rfl,rfl,rfl⟩;simp only [LY,seval];intro j hj;rcases (show j=0 ∨ j=1 by omega) with rfl | rfl <;> simp only [Nat.one_ne_zero,B4,LY,seval]
variable {M:Seat}
def LA (h:Dg):V:=.mp 1 (fun _=>W 1#64) (fun _=>dg h)
theorem Wb (z:Z) (hh:Bool) (k:BitVec 64) (H:Hp):Df .int z true hh VZ (W k) H=⟨hh=true,.tup (.fcons 0 (z.v 0) (.fcons 1 (.bool false) .fnil)),H⟩:=by
 simp [Df,VZ,HS,AR,W,V.solid]
theorem NK (z:Z) (hh:Bool) (h:Dg) (H:Hp):Df .int z true hh (LA h) (W 1#64) H=⟨hh=true,.tup (.fcons 0 (dg h) (.fcons 1 (.bool true) .fnil)),H⟩:=by
 simp [Df,LA,HS,AR,AX,W,V.solid]
theorem Ab0 (hh:Bool) (h:Dg) (id:Nat) (H:Hp):Hh .int hh VZ (W 1#64) (dg h) id H=⟨hh=true,.tup .fnil,CA H id (.mp 1 (fun j=>if j=0 then W 1#64 else W 0#64) (fun j=>if j=0 then dg h else dg Dg.zero))⟩:=by
 simp only [Hh,VZ,HS,D4,Nat.not_lt_zero,false_implies,implies_true,and_true,Option.getD_none,AR,W,Nat.zero_add];rw [show (V.int IntKind.u64 ((1#64:BitVec 64).toNat:Int)).solid=true from rfl];simp only [Jb];rfl
theorem BF (m:List Nat) (c:Prop) [Decidable c] (a b:V):V.ren m (if c then a else b)=if c then V.ren m a else V.ren m b:=by split <;> rfl
structure OkHa (M:Seat):Prop where
 r:OkHr M
 k153:Ar M 153 Ag3=true
 k154:Ar M 154 O6=true
def hL:List (Nat→BitVec 64):=oK BL.f [] 256
theorem Rv (ok:OkHa M) (d:Int) :
 Ae M 153 [.ptr 0 []] [(0,Aw (.sl 2 [] 0 1 3) d (.map 3) (.map 1)),(1,Et []),(2,.ar 3 1 fun _=>BM 0#64 4 5),(4,BL.v)] 6
  (Q3 (Ai (dg BL.com) .nili) [(0,Aw (.sl 2 [] 0 1 3) d (.map 3) (.map 1)),(1,Et hL),(2,.ar 3 1 fun _=>BM 0#64 4 5),(4,BL.v)] 6):=by
 have hO:=Up ok.r.n.o BL.f BL.g BL.pc BL.hl BL.xt 1 d [];rw [show BP (Cd BL.f 13 0) (D2 BL.g BL.pc BL.hl BL.xt)=BL.com from rfl,show oK BL.f [] 256=hL from rfl] at hO;generalize BL.com=C0 at *
 generalize hL=l0 at *
 simp only [Mc.v,BL,mach] at hO;refine Ab ok.k153 rfl fun x hx=>?_;refine eX ?_;simp only [Ag3,Anx,Aw,BM,Mc.v,BL,CP,seval];repeat refine sd ?_
 have zz:=AY @g8 @Ah;refine By [0,1,2,3,4] [0,1,4] (hO) ?_;simp only [Cz,Aw,AE,seval];have zz:=Qe @d9 @g8 @BM.eq_1 @x7 @BL.eq_1 @c7 @Ah @b7;exact AI hx [0,1,2,3,4,5] ⟨rfl,rfl,rfl⟩
theorem WL (ok:OkHa M) (pres:List (Dg × Pr)) (l:List (Nat→BitVec 64)) :
 Ae M 154 [.ptr 0 [],W 0#64] [(0,Aw (.sl 2 [] 0 1 3) 1 (.map 3) (.map 1)),(1,Et l),(2,.ar 3 1 fun _=>BM 0#64 4 5),(3,VZ),(4,BL.v),(5,Dn 6 7 8),(6,BG AL Pr.zero pres)] 9
  (Q3 (Ai (dg Cb.com) .nili) [(0,Aw (.sl 9 [] 0 2 3) 1 (.map 3) (.map 1)),(1,Et (oK Cb.f l 256)),(3,LA Cb.com),(4,BL.v),(5,Dn 6 7 8),(6,BG AL Pr.zero pres),(9,.ar 3 2 pt2),(10,Cb.v),(11,Dn 12 7 13),(12,BG AL Pr.zero pres),(13,Cs [])] 14):=by
 have hR:=RP ok.r pres 1;have hO:=Up ok.r.n.o Cb.f Cb.g Cb.pc Cb.hl Cb.xt 2 1 l;rw [show BP (Cd Cb.f 13 0) (D2 Cb.g Cb.pc Cb.hl Cb.xt)=Cb.com from rfl] at hO;have hk0:=fun z hh k H=>Wb z hh k H;have hku:=fun hh id H=>Ab0 hh Cb.com id H;generalize Cb.com=C1 at *
 generalize oK Cb.f l 256=l1 at *
 simp only [Mc.v,BL,Cb,mach] at hO hR;have hpt:pt2=fun j=>if j=0 then BM 0#64 4 5 else BM 1#64 10 11:=funext fun _=>rfl;rw [hpt] at hR ⊢;refine Ab ok.k154 rfl fun x hx=>?_;refine eX ?_;simp only [O6,R1,Aw,BM,Mc.v,BL,CP,seval];have zz:=D0 @g8 @BM.eq_1 @Dn.eq_1 @Cg;refine By [0,1,2,3,4,5,6,7,8] [0,2,4,5,6] (hR) ?_;simp only [Aw,BM,Dn,A3,hk0,Bn,seval];repeat refine sd ?_
 simp only [BF,BM,LN,LP,V.ren,AU,AB,BZ,Ch,seval];have zz:=AY @g8 @Ah;refine By [0,1,265,3,266] [0,1,266] (hO) ?_;simp only [Cz,Aw,BM,Dn,AE,hku,seval];repeat refine sd ?_
 refine Ap.mk hx [0,1,2,3,4,5,6,7,8,265,266,267,268,269] [] (Ai (dg C1) .nili) _ 14 Al (by (simp only [Di,seval])) (by simp only [LV,Bb,seval,LY]) ?_ ⟨rfl,rfl,rfl⟩;simp only [Cb,LA,Ah,Fh,seval];refine ⟨fun i hi=>?_,fun j hj=>?_⟩
 ·obtain rfl:i=0:=Aa;simp only [if_true,LY,seval]
 ·rcases (show j=0 ∨ j=1 by omega) with rfl | rfl <;> simp only [Nat.one_ne_zero,B4,LY,seval]
def hB (pres:List (Dg × Pr)) (l:List (Nat→BitVec 64)):Hp:=[(0,Aw (.sl 2 [] 0 2 3) 1 (.map 3) (.map 1)),(1,Et l),(2,.ar 3 2 fun j=>if j=0 then BM 0#64 4 5 else BM 1#64 6 7),(3,LA Cb.com),(4,BL.v),(5,Dn 8 9 10),(6,Cb.v),(7,Dn 11 9 12),(8,BG AL Pr.zero pres),(10,Cs []),(11,BG AL Pr.zero pres),(12,Cs [])]
theorem TF (ok:OkHa M) (pres:List (Dg × Pr)) (l:List (Nat→BitVec 64)) :
 Ae M 154 [.ptr 0 [],W 0#64] (hB pres l) 13 (Q3 (Ai (dg Cb.com) .nili) (hB pres l) 13):=by
 have hR:=RK ok.r 1;have hk:=fun z hh H=>NK z hh Cb.com H;unfold hB;generalize Cb.com=C1 at *
 simp only [Mc.v,Cb,mach] at hR;refine Ab ok.k154 rfl fun x hx=>?_;refine eX ?_;simp only [O6,R1,Aw,BM,Dn,Mc.v,BL,Cb,CP,seval];refine RZ [0,1,2,3,4,5,6,7] [0,2,6] (hR) (by constructor <;> (try simp only [Aw,BM,LY,seval]) <;> first | exact q1 | (intro j hj;rcases (show j=0 ∨ j=1 by omega) with rfl | rfl <;> simp only [Nat.one_ne_zero,B4,LY,seval])) ?_;simp only [Aw,BM,hk,BF,Bn,seval];repeat refine sd ?_
 refine Ap.mk hx [0,1,2,3,4,5,6,7,8,9,10,11,12] [] (Ai (dg C1) .nili) _ 13 Al (by (simp only [Di,seval])) (by simp only [LV,Bb,dg,seval,LY]) ?_ ⟨rfl,rfl,rfl⟩;simp only [LA,Fh,BF,Ah,seval];intro j hj;rcases (show j=0 ∨ j=1 by omega) with rfl | rfl <;> simp only [Nat.one_ne_zero,B4,LN,LP,V.ren,AU,AB,BZ,Ch,seval,LY]
theorem K9 (ok:OkHa M) (pres:List (Dg × Pr)) (l:List (Nat→BitVec 64)) :
 Ae M 154 [.ptr 0 [],W 1#64] (hB pres l) 13 (Q3 (Ai (dg Cb.com) .nili) (hB pres l) 13):=by
 have hR:=Ra ok.r 1;have hk:=fun z hh H=>NK z hh Cb.com H;unfold hB;generalize Cb.com=C1 at *
 simp only [Mc.v,Cb,mach] at hR;refine Ab ok.k154 rfl fun x hx=>?_;refine eX ?_;simp only [O6,R1,Aw,BM,Dn,Mc.v,BL,Cb,CP,seval];refine RZ [0,1,2,3,4,5,6,7] [0,2,6] (hR) (by constructor <;> (try simp only [Aw,BM,LY,seval]) <;> first | exact q1 | (intro j hj;rcases (show j=0 ∨ j=1 by omega) with rfl | rfl <;> simp only [Nat.one_ne_zero,B4,LY,seval])) ?_;simp only [Aw,BM,hk,BF,Bn,seval];repeat refine sd ?_
 refine Ap.mk hx [0,1,2,3,4,5,6,7,8,9,10,11,12] [] (Ai (dg C1) .nili) _ 13 Al (by (simp only [Di,seval])) (by simp only [LV,Bb,dg,seval,LY]) ?_ ⟨rfl,rfl,rfl⟩;simp only [LA,Fh,BF,Ah,seval];intro j hj;rcases (show j=0 ∨ j=1 by omega) with rfl | rfl <;> simp only [Nat.one_ne_zero,B4,LN,LP,V.ren,AU,AB,BZ,Ch,seval,LY]
end Mv
