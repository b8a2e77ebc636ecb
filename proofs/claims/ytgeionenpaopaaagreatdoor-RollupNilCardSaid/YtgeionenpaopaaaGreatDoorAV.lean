/- A part. -/
import Derived.Test.YtgeionenpaopaaaGreatDoorAU
set_option linter.all false
set_option maxRecDepth 20000
set_option maxHeartbeats 4000000
namespace Mv
open Go
def Arp (l:List Dg) (h q:Nat):Dg:=(D2 l h).getD q (Dd h)
theorem Azn (l:List Dg) (q:Nat):Arp l 0 q=l.getD q Dg.zero:=rfl
theorem At1 (l:List Dg) (h q:Nat):Arp l (h + 1) q=Ajh (Arp l h (2 * q)) (Arp l h (2 * q + 1)):=by
 unfold Arp;by_cases hq:q < ((D2 l h).length + 1) / 2
 ·rw [D2,Awc _ _ _ _ hq];rfl
 ·rw [S0 (by rw [D2,Aq5];omega),S0 Aa,S0 Aa];rfl
theorem Atw (l:List Dg) (hl:0 < l.length):∀ h,0 < (D2 l h).length
 | 0=>hl
 | h + 1 => by
   have:=Atw l hl h;rw [D2,Aq5];omega
theorem Aq8 (m:List Nat) (l:List Dg) (h:Nat):(U3 l h).ren m=U3 l h:=by
 rcases G2 l h with e | ⟨e,_⟩ <;> rw [e] <;> rfl
theorem Aul (H:Hp) (m z:List Nat) (l:List Dg):B5 H m z (row l) (row l):=by
 simp only [row,B5,Aw,true_and];exact fun j _=>(Kt _ _ _ _ _).mpr rfl
theorem Auh {M:Seat} (ok:OkM M) (d:Nat) (hd:d≤16) (l:List Dg) (hl:l.length≤2 ^ d) :
 As M 200 [.int .i64 d,row l] [] 0 (Q3 (AP (dg (Arp l d 0)) .nili) [] 0):=by
 refine Ac ok.k200 rfl fun x hx=>?_;refine es 30 ?_;simp only [Azi,A0s,W0,↓Ax,ex,Ro,Cr,Dy,Ag,seval];refine EE (Asz ok d hd l hl) False [] [] List.nodup_nil BF rfl BF ⟨rfl,Aul _ _ _ _,trivial⟩ trivial ?_;rintro v H' k' ⟨rfl,rfl,rfl⟩;refine ⟨⟨by omega,fun h=>h.elim⟩,?_⟩;have hnum:Bo [] 64 1=[64]:=rfl;simp only [hnum,Cz,LN,V.ren,Bf,AH,CT,Aq8,Lag,List.append_nil,Lau,ne_eq,Dh,seval];by_cases h0:l.length=0
 ·have d0:decide ((l.length:Int)=0)=true:=by rw [h0];rfl
  have hn:Arp l d 0=Dd d:=S0 (by have:=Asa l d;omega) _;simp (maxSteps:=2000000) only [row,AQ,AX,d0,W0,↓Ax,ex,Ro,Cr,Dy,Ag,seval];repeat refine sd ?_
  simp only [hn];refine Ay.mk hx [] [] (AP (dg (Dd d)) .nili) [] 0 Ab ?_ ?_ trivial ⟨rfl,rfl,rfl⟩
  ·simp only [Lbb,↓Ax,ex,Ro,Cr,Dy,Ag,seval];rfl
  ·simp only [Lam,↓Ax,ex,Ro,Cr,Dy,Ag,seval]
 ·have d0:decide ((l.length:Int)=0)=false:=decide_eq_false Aa;have hpos:=Atw l Aa d;rcases G2 l d with hv | ⟨hv,hL⟩
  ·simp (maxSteps:=2000000) only [row,AQ,AX,d0,Art,Asd,Atz,hv,W0,↓Ax,ex,Ro,Cr,Dy,Ag,seval];repeat refine sd ?_
   have hn:(D2 l d).getD 0 Dg.zero=Arp l d 0:=T3 hpos _ _;simp only [hn];refine Ay.mk hx [] [] (AP (dg (Arp l d 0)) .nili) [] 0 Ab ?_ ?_ trivial ⟨rfl,rfl,rfl⟩
   ·simp only [Lbb,↓Ax,ex,Ro,Cr,Dy,Ag,seval];rfl
   ·simp only [Lam,↓Ax,ex,Ro,Cr,Dy,Ag,seval]
  ·rw [hL] at hpos;simp at hpos
def byt (v:Int) (i:Nat):Int:=(v / 2 ^ (56 - 8 * i)) % 256
theorem Ast {M:Seat} (hc:Ar M 312 Au1=true) (L o n:Nat) (g:Nat→Int) (v:Int) (hv:0≤v) (hn:8≤n) (hL:o + n≤L) :
 As M 312 [.sl 0 [] o n 1,.int .u64 v] [(0,.ar 1 L fun j=>.int .u8 (g j))] 1 (Q3 (.tup .fnil) [(0,.ar 1 L (fun j=>.int .u8 (if o≤j∧j < o + 8 then byt v (j - o) else g j)))] 1):=by
 refine Ac hc rfl fun x hx=>?_;refine es 30 ?_;simp only [Au1,A0q,GR,↓Ax,ex,Ro,Cr,Dy,Ag,Nat.reduceLT,Int.reduceLE,Int.reduceLT,Nat.reducePow,Nat.reduceAnd,Nat.reduceOr,Nat.reduceShiftRight,Int.reduceToNat,reduceCtorEq,Nat.reduceAdd,Nat.reduceMul,Nat.reduceSub,Nat.reduceBEq,Nat.reduceEqDiff];refine Au (σ:=Nat) (fun i=>i≤8) (fun i=>fr 18 [(0,.sl 0 [] o n 1),(1,.int .u64 v),(5,.int .i64 i)])
  (fun i=>[(0,.ar 1 L (fun j=>.int .u8 (if o≤j∧j < o + i then byt v (j - o) else g j)))]) (fun _=>1) (fun i=>8 - i) 0 Aa ?_ ?_
 ·refine Av.fr [0] [] hx Bg Ab ?_ ?_
  ·simp only [P8,Nat.reduceLT,reduceCtorEq,Nat.reduceEqDiff];rfl
  ·simp only [P8,Nat.reduceLT,reduceCtorEq,Nat.reduceEqDiff];intro i hi;rw [if_neg Aa]
 ·intro i hi;refine es 30 ?_;simp only [GR,↓Ax,ex,Ro,Cr,Dy,Ag,Nat.reduceLT,Int.reduceLE,Int.reduceLT,Nat.reducePow,Nat.reduceAnd,Nat.reduceOr,Nat.reduceShiftRight,Int.reduceToNat,reduceCtorEq,Nat.reduceAdd,Nat.reduceMul,Nat.reduceSub,Nat.reduceBEq,Nat.reduceEqDiff];refine ⟨fun hlt=>?_,fun hge=>?_⟩
  ·have hlt:(i:Int) < 8:=by simpa using hlt
   have w1:IntKind.i64.wrap (8 * ↑i)=8 * i:=AR Aa;have w2:IntKind.i64.wrap (56 - 8 * ↑i)=56 - 8 * i:=AR Aa;have w3:IntKind.i64.wrap ((i:Int) + 1)=i + 1:=AR Aa;simp only [w1,w2,w3];refine ⟨by omega,⟨by omega,by omega⟩,by omega,i + 1,by omega,by omega,Av.fr [0] [] hx Bg Ab ?_ ?_⟩
   ·simp only [P8,Nat.reduceLT,reduceCtorEq,Nat.reduceEqDiff];omega
   ·simp only [P8,Nat.reduceLT,reduceCtorEq,Nat.reduceEqDiff];intro j hj;by_cases hji:j=o + i
    ·rw [if_pos hji,if_pos Aa,ME,Int.fdiv_eq_ediv_of_nonneg _ (Int.pow_nonneg Aa),byt];have e1:min (56 - 8 * (i:Int)).toNat IntKind.u64.bits=56 - 8 * (j - o):=by simp only [IntKind.bits];omega
     rw [e1]
    ·rw [if_neg hji];by_cases h2:o≤j∧j < o + i
     ·rw [if_pos h2,if_pos Aa]
     ·rw [if_neg h2,if_neg Aa]
  ·have hge:¬ (i:Int) < 8:=by simpa using hge
   have hi8:i=8:=Aa;subst hi8;refine Ay.mk hx [0] [] (.tup .fnil) _ 1 Ab ?_ ?_ ?_ ⟨rfl,rfl,rfl⟩
   ·simp [EO,Hy,Lk]
   ·simp [EO,KI,B5,Aw]
   ·simp only [P8,Nat.reduceLT,reduceCtorEq,Nat.reduceEqDiff];intro i hi;trivial
variable {M:Seat}
def L2 (v:BitVec 64):Dg:=Dg.mk' fun j=>if j < 24 then 0 else (v >>> (56 - 8 * (j - 24))).setWidth 8
theorem Awd (v:BitVec 64) (i:Nat):V.int .u8 (byt (v.toNat:Int) i)=B ((v >>> (56 - 8 * i)).setWidth 8):=by
 simp only [B,byt,BitVec.toNat_setWidth,Lb4]
 congr 1
theorem Avw:L2 0=Dg.zero:=by
 apply Dg.ext';intro j hj;rw [L2,Dg.at_mk' _ _ hj,Dg.at_zero];split
 ·rfl
 ·simp
theorem Auw (v:BitVec 64):V.ar 1 32 (fun i=>V.int .u8 (if 24≤i∧i < 24 + 8 then byt (v.toNat:Int) (i - 24) else 0))=dg (L2 v):=by
 have h:(fun i=>V.int .u8 (if 24≤i∧i < 24 + 8 then byt (v.toNat:Int) (i - 24) else 0))=fun j=>B ((L2 v).at j):=by
  funext j;by_cases hj:j < 32
  ·rw [L2,Dg.at_mk' _ _ hj];by_cases h2:j < 24
   ·rw [if_pos h2,if_neg Aa];rfl
   ·rw [if_neg h2,if_pos Aa,Awd]
  ·rw [if_neg Aa];simp only [Dg.at,List.getD];rw [List.getElem?_eq_none (by rw [(L2 v).h];omega)];rfl
 simp only [dg,h]
theorem At8 (ok:OkM M) (v:BitVec 64) :
 As M 202 [W v] [] 0 (Q3 (dg (L2 v)) [] 0):=by
 refine Ac ok.k202 rfl fun x hx=>?_;refine es 30 ?_;simp only [Awq,A0r,W0,↓Ax,ex,Ro,Cr,Dy,Ag,seval];refine EE (Ast ok.k312 32 24 8 (fun _=>0) (v.toNat:Int) Aa Aa Aa) False [16] [] BF BF rfl (by simp [Af]) (by simp only [Me,seval,W]) (by simp only [Me,seval]) ?_;rintro r H' k' ⟨rfl,rfl,rfl⟩;refine ⟨⟨by omega,fun h=>h.elim⟩,?_⟩;have hnum:Bo [16] 64 1=[16]:=rfl;simp only [hnum,LN,V.ren,Bf,AH,CT,Aq8,Lag,List.append_nil,Lau,ne_eq,Dh,seval];simp only [Auw,W0,↓Ax,ex,Ro,Cr,Dy,Ag,seval];refine Ay.mk hx [] [] (dg (L2 v)) [] 0 Ab ?_ ?_ trivial ⟨rfl,rfl,rfl⟩
 ·simp only [Lbb,↓Ax,ex,Ro,Cr,Dy,Ag,seval]
 ·simp only [Lam,↓Ax,ex,Ro,Cr,Dy,Ag,seval]
def AL (f g:Nat→BitVec 64) (pc:BitVec 64) (hl:Bool) (ex:BitVec 64):V :=
 .st 8211 (.fcons 0 (.ar 1 8192 (fun j=>W (f j))) (.fcons 8192 (.ar 1 16 (fun j=>W (g j))) (.fcons 8208 (W pc) (.fcons 8209 (.bool hl) (.fcons 8210 (W ex) .fnil)))))
def Atx:LC:=(sr [mt 20 3,A1 21 (.mksl 32 32 zD (.t 20) (.t 20)),mt 4 21] (.seq (sr [mt 22 4,
  lN 23 0 22,
  mI 24 0] (.block 2 (.loop (sr [ak 25 .lss 24 23] (.seq (Fy 25 2) (.seq (.block 3 (sr [mt 26 24,mt 5 26] (.reg [mt 27 4,mt 28 5,mt 29 0,mt 30 5,nc 31 29,fa 32 0 31,ib 33 8192 1 32 30,lb 34 1 33,kl 35 202 [(.t 34)],ia 36 32 27 28,sb 32 36 35]))) (.reg [aI 37 .add 24 1,mt 24 37]))))))) (sr [mt 38 4,mt 2 38] .ret)))
abbrev Atv (f:Nat→BitVec 64):V→Hp→Nat→Prop:=fun r H' k'=>∃ n,n≤8192∧(∀ j,n≤j→j < 8192→f j=0)∧r = .sl 0 [] 0 n 32∧H'=[(0,.ar 32 n (fun j=>dg (L2 (f j))))]∧k'=1
theorem Aso {x:Ctx} (ok:OkM M) (hx:x.k=0) (f g:Nat→BitVec 64) (pc:BitVec 64) (hl:Bool) (e:BitVec 64) (n:Nat) (hn:n≤8192) (hz:∀ j,n≤j→j < 8192→f j=0) :
 F8 M x (Ay M x [.tmp 2] (Atv f)) [.code Atx] 0 (fr 39 [(0,.imm (AL f g pc hl e)),(3,.int .i64 n)]) []:=by
 (refine es 40 ?_;simp (maxSteps:=2000000) only [Atx,AL,W0,↓Ax,ex,Ro,Cr,Dy,Ag,seval]);repeat refine sd ?_
 refine Au (σ:=Nat) (fun q=>q≤n) (fun q=>fr 39 [(0,.imm (AL f g pc hl e)),(4,.sl 0 [] 0 n 32),(23,.int .i64 n),(24,.int .i64 q)])
  (fun q=>[(0,.ar 32 n (fun j=>dg (if j < q then L2 (f j) else Dg.zero)))]) (fun _=>1) (fun q=>n - q) 0 Aa ?_ ?_
 ·refine Av.fr [16] [] hx Bg Ab ?_ ?_
  ·simp only [Me,seval,AL]
  ·simp only [Me,seval,dg0];intro j hj;rw [if_neg Aa]
 ·intro q hq;have w1:IntKind.i64.wrap ((q:Int) + 1)=((q + 1:Nat):Int):=B7;(refine es 40 ?_;simp (maxSteps:=2000000) only [w1,AL,W0,↓Ax,ex,Ro,Cr,Dy,Ag,seval]);refine ⟨fun hlt=>?_,fun hge=>?_⟩
  ·have hlt:=of_decide_eq_true hlt;repeat refine sd ?_
   refine BT (At8 ok _) ⟨rfl,trivial⟩ rfl ?_;simp only [W0,↓Ax,ex,Ro,Cr,Dy,Ag,seval];repeat refine sd ?_
   refine ⟨q + 1,by omega,by omega,?_⟩;refine Av.fr [0] [] hx Bg Ab ?_ ?_
   ·simp only [Me,seval,AL]
   ·simp only [Me,seval];intro j hj;by_cases h1:j=q
    ·rw [if_pos h1,if_pos Aa,h1]
    ·rw [if_neg h1];by_cases h2:j < q
     ·rw [if_pos h2,if_pos Aa]
     ·rw [if_neg h2,if_neg Aa]
  ·have hge:=of_decide_eq_false hge;have hq:q=n:=Aa;subst hq;refine Ay.mk hx [0] [] (.sl 0 [] 0 q 32) [(0,.ar 32 q (fun j=>dg (L2 (f j))))] 1 Ab ?_ ?_ ?_ ⟨q,hn,hz,rfl,rfl,rfl⟩
   ·simp only [Lbb,↓Ax,ex,Ro,Cr,Dy,Ag,seval]
   ·simp only [Lam,↓Ax,ex,Ro,Cr,Dy,Ag,seval]
   ·simp only [Me,seval];intro j hj;rw [if_pos hj]
theorem Asr (ok:OkM M) (f g:Nat→BitVec 64) (pc:BitVec 64) (hl:Bool) (e:BitVec 64) :
 As M 199 [.imm (AL f g pc hl e)] [] 0 (Atv f):=by
 refine Ac ok.k199 rfl fun x hx=>?_;refine es 30 ?_;simp only [Aw4,A0u,AL,W0,↓Ax,ex,Ro,Cr,Dy,Ag,seval];refine Au (σ:=Nat) (fun n=>n≤8192∧∀ j,n≤j→j < 8192→f j=0) (fun n=>fr 39 [(0,.imm (AL f g pc hl e)),(3,.int .i64 n)])
  (fun _=>[]) (fun _=>0) (fun n=>n) 8192 ⟨by omega,fun j h1 h2=>by omega⟩ ?_ ?_
 ·refine Av.fr [] [] hx Bg Ab ?_ ?_
  ·simp only [Me,seval,AL]
  ·trivial
 ·intro n ⟨hn,hz⟩;have tail:=Aso ok hx f g pc hl e;by_cases h0:n=0
  ·have d0:decide ((0:Int) < n)=false:=decide_eq_false Aa;(refine es 5 ?_;simp (maxSteps:=2000000) only [d0,AL,W0,↓Ax,ex,Ro,Cr,Dy,Ag,seval]);refine F8.weak _ _ _ ?_ (tail n hn hz);refine Av.fr [] [] hx Bg Ab ?_ ?_
   ·simp only [Me,seval,AL]
   ·trivial
  ·have d0:decide ((0:Int) < n)=true:=decide_eq_true Aa;have w1:IntKind.i64.wrap ((n:Int) - 1)=((n - 1:Nat):Int):=B7;(refine es 5 ?_;simp (maxSteps:=2000000) only [d0,w1,AL,W0,↓Ax,ex,Ro,Cr,Dy,Ag,seval]);refine ⟨by omega,fun e1=>?_,fun _=>?_⟩
   ·have e1:=of_decide_eq_true e1;have e2:f (n - 1)=0:=BitVec.eq_of_toNat_eq (by simpa using e1);(refine es 5 ?_;simp (maxSteps:=2000000) only [d0,w1,AL,W0,↓Ax,ex,Ro,Cr,Dy,Ag,seval]);refine ⟨n - 1,⟨by omega,fun j h1 h2=>?_⟩,by omega,?_⟩
    ·by_cases h3:j=n - 1
     ·rw [h3,e2] <;> rfl
     ·exact hz j Aa h2
    ·refine Av.fr [] [] hx Bg Ab ?_ ?_
     ·simp only [Me,seval,AL]
     ·trivial
   ·refine F8.weak _ _ _ ?_ (tail n hn hz);refine Av.fr [] [] hx Bg Ab ?_ ?_
    ·simp only [Me,seval,AL]
    ·trivial
def b9:=@AL.eq_1
end Mv
namespace Mv
open Go
def Ar3 (f:Nat→BitVec 64):Nat→Nat→Dg
 | 0,q=>if q < 8192 then L2 (f q) else Dg.zero
 | h + 1,q=>Ajh (Ar3 f h (2 * q)) (Ar3 f h (2 * q + 1))
def lvs (f:Nat→BitVec 64) (n:Nat):List Dg:=(List.range n).map (fun j=>L2 (f j))
theorem Arw (f:Nat→BitVec 64) (n:Nat):(lvs f n).length=n:=by simp [lvs]
theorem Avg (f:Nat→BitVec 64) (n j:Nat) (hj:j < n) (d:Dg):(lvs f n).getD j d=L2 (f j):=by
 simp [lvs,List.getD,List.getElem?_map,List.getElem?_range hj]
theorem Arh (f:Nat→BitVec 64) (n:Nat) (hn:n≤8192) (hz:∀ j,n≤j→j < 8192→f j=0):∀ h q,Arp (lvs f n) h q=Ar3 f h q
 | 0, q => by
   rw [Azn,Ar3];by_cases h1:q < n
   ·rw [Avg _ _ _ h1,if_pos Aa]
   ·rw [S0 (by rw [Arw];omega)];split
    ·rw [hz q Aa Aa,Avw]
    ·rfl
 | h + 1,q=>by rw [At1,Ar3,Arh f n hn hz h,Arh f n hn hz h]
theorem Atm {M:Seat} (ok:OkM M) (f g:Nat→BitVec 64) (pc:BitVec 64) (hl:Bool) (e:BitVec 64) :
 As M 51 [.imm (AL f g pc hl e)] [] 0 (Q3 (AP (dg (Ar3 f 13 0)) .nili) [] 0):=by
 refine Ac ok.k51 rfl fun x hx=>?_;refine es 30 ?_;simp only [f51,c51,AQ,AX,W0,↓Ax,ex,Ro,Cr,Dy,Ag,seval];refine EE (Asr ok f g pc hl e) False [] [] List.nodup_nil BF rfl BF (by simp only [Me,B5,AL,seval]) trivial ?_;rintro v H' k' ⟨n,hn,hz,rfl,rfl,rfl⟩;refine ⟨⟨by omega,fun h=>h.elim⟩,?_⟩;have hnum:Bo [] 80 1=[80]:=rfl;simp only [hnum,LN,V.ren,Bf,AH,CT,Aq8,Lag,List.append_nil,Lau,ne_eq,Dh,seval];have hl13:(lvs f n).length≤2 ^ 13:=by rw [Arw];omega
 refine Qu [80] (Auh ok 13 Aa (lvs f n) hl13) ⟨rfl,?_,trivial⟩ rfl ?_
 ·simp only [row,Arw,Me,seval];intro j hj;exact (Avg _ _ _ hj _).symm
 simp only [Arh f n hn hz,AH,AP,W0,↓Ax,ex,Ro,Cr,Dy,Ag,seval,LN,V.ren,Bf,Aq8,Lag,List.append_nil];refine Ay.mk hx [] [] (AP (dg (Ar3 f 13 0)) .nili) [] 0 Ab ?_ ?_ trivial ⟨rfl,rfl,rfl⟩
 ·simp only [Lbb,↓Ax,ex,Ro,Cr,Dy,Ag,seval];rfl
 ·simp only [Lam,↓Ax,ex,Ro,Cr,Dy,Ag,seval]
theorem Ajt (ts:List Nat):AQ true (.iface ts) .nili .nili=True:=by simp [AQ]
theorem Alq (ts:List Nat):AX (.iface ts) .nili .nili=true:=rfl
theorem Aiw (c:Bool) (ts:List Nat) (t:Nat) (v:V):AQ c (.iface ts) (.ifc t v) .nili=True:=by simp [AQ]
theorem Ali (ts:List Nat) (t:Nat) (v:V):AX (.iface ts) (.ifc t v) .nili=false:=by cases v <;> rfl
theorem Ajz (c:Bool) (i:Nat) (p:List Stp):AQ c .ptr (.ptr i p) .nilp=True:=by simp [AQ]
theorem Ai1 (i:Nat) (p:List Stp):AX .ptr (.ptr i p) .nilp=false:=rfl
theorem Ahs (c:Bool) (v:V):AQ c .ptr (.imm v) .nilp=True:=by simp [AQ]
theorem Ale (v:V):AX .ptr (.imm v) .nilp=false:=rfl
def Aod (m r:Nat) (pc:BitVec 64) (hl:Bool) (ex:BitVec 64):V :=
 .st 5 (.fcons 0 (.sl m [] 0 8192 1) (.fcons 1 (.sl r [] 0 16 1) (.fcons 2 (W pc) (.fcons 3 (.bool hl) (.fcons 4 (W ex) .fnil)))))
def Apn (f g:Nat→BitVec 64) (pc:BitVec 64) (hl:Bool) (xt:BitVec 64) (m:Nat):Hp :=
 [(m,AL f g pc hl xt),(m + 1,Aod (m + 2) (m + 3) pc hl xt),(m + 2,.ar 1 8192 (fun j=>W (f j))),(m + 3,.ar 1 16 (fun j=>W (g j)))]
theorem Rw (f g:Nat→BitVec 64) (pc:BitVec 64) (hl:Bool) (xt:BitVec 64):(AL f g pc hl xt).solid=true:=rfl
theorem Yn (H:Hp) (m z:List Nat) (f g:Nat→BitVec 64) (pc:BitVec 64) (hl:Bool) (xt:BitVec 64):Aw H m z (AL f g pc hl xt) (AL f g pc hl xt):=by
 simp only [AL,Me,seval]
theorem QT {M:Seat} {f:Nat} {us us0:List V} {H:Hp} {n:Nat} {K:V→Hp→Prop} {v:V} (z:List Nat) (hr:As M f us0 [] 0 (Q3 v [] 0)) (hus:Bh H [] z us0 us) (hv:v.ren (Bo [] n 0)=v) (hn:AG v) (hK:K v H):Bk M f us H n K:=by
 refine EE hr True [] z List.nodup_nil BF rfl BF hus trivial ?_;rintro v' H' k' ⟨rfl,rfl,rfl⟩;refine ⟨⟨by omega,fun _=>⟨hn,fun id h=>by simp [Af] at h⟩⟩,?_⟩;rw [hv];simpa [Bf,AH] using hK
theorem Ag5 (c:Bool):AQ c .ptr .nilp .nilp=True:=rfl
theorem Ai3:AX .ptr .nilp .nilp=true:=rfl
theorem Alh (c:Bool) (ts:List Nat) (t:Nat) (v:V):AQ c (.iface ts) .nili (.ifc t v)=True:=by cases v <;> simp [AQ]
theorem Aiq (ts:List Nat) (t:Nat) (v:V):AX (.iface ts) .nili (.ifc t v)=false:=by cases v <;> rfl
theorem An4 (c a b:Bool):AQ c .bool (.bool a) (.bool b)=True:=rfl
theorem Amo (a b:Bool):AX .bool (.bool a) (.bool b)=(a == b):=by cases a <;> cases b <;> rfl
theorem Alt (c:Bool) (k:IntKind) (a b:Int):AQ c .int (.int k a) (.int k b)=True:=by simp [AQ]
theorem Am6 (k k':IntKind) (a b:Int):AX .int (.int k a) (.int k' b)=decide (a=b):=rfl
theorem Ao3 (c:Bool) (a b:Int):AQ c (.iface [74]) (.ifc 74 (.int .i64 a)) (.ifc 74 (.int .i64 b))=True:=by simp [AQ]
theorem Aot (ts:List Nat) (t:Nat) (a b:Int):AX (.iface ts) (.ifc t (.int .i64 a)) (.ifc t (.int .i64 b))=decide (a=b):=by simp [AX]
theorem Anb (a b:Prop):(bif true then a else b)=a:=rfl
theorem Aoh (a b:Prop):(bif false then a else b)=b:=rfl
theorem Aqa (f:X→V) (a:X) (l:List X):(a :: l).map f=f a :: l.map f:=rfl
theorem Aqf (f:X→V):([]:List X).map f=[]:=rfl
theorem Aqr {a b:Bool}:(bif true then a else b)=a:=rfl
theorem Ano (f:X→V):(none:Option X).map f=none:=rfl
theorem Anf (f:X→V) (a:X):(some a).map f=some (f a):=rfl
theorem Aoc (a:V) (l m:List V):a :: l ++ m=a :: (l ++ m):=rfl
theorem fcT (a b:List (Nat × Hp)):(bif true then a else b)=a:=rfl
theorem fcF (a b:List (Nat × Hp)):(bif false then a else b)=b:=rfl
theorem flN (f:Nat × Nat × V→Bool):([]:List (Nat × Nat × V)).filter f=[]:=rfl
theorem Aqu (a:LOp) (l:List LOp):(a :: l).length=l.length + 1:=rfl
theorem neN (a b:Nat):(a ≠ b) = ¬ (a=b):=rfl
theorem neI (a b:Int):(a ≠ b) = ¬ (a=b):=rfl
theorem neW (a b:BitVec 64):(a ≠ b) = ¬ (a=b):=rfl
theorem nlz (n:Nat):(n < 0)=False:=BF
theorem bTF:(true == false)=false:=rfl
theorem bFT:(false == true)=false:=rfl
theorem Aqq:([]:List LOp).length=0:=rfl
def LG:=(DC (BK (ED @Aov @Yl @Adq @Adx @Xh @XG @Yp @Agx @Ac4 @Akz @Aiy) (ED @Uh @Ad8 @Vg @Acs @ZO @Acb @WY @Zr @Uc @Ad6 @Ace)) (BK (ED @Afg @Aaz @XS @Adb @Aax @XR @Aeb @Y4 @Aa7 @WJ @VV) (De @Aih @Aex @Ah6 @Aa1 @Aau @Ahu @Acz @Afk @Aju @Aew @Ame @Apd)) (BK (ED @Amu @Ajf @Ak5 @Alr @Ag4 @Ww @Xt @UW @Afn @Aba @Ad1) (De @YU @Aie @Ahg @ZV @XI @Ajq @Acg @Akl @Agm @Ahl @Ya @Ae5)) (BK (ED @Acv @Wt @Aav @Ad2 @Agn @Aa2 @VS @Ry @Ahx @Ah8 @Aeu) (De @ZU @Aka @Aal @Aec @Ah4 @Aeq @Ab2 @Abl @Uu @ZD @Od @Ve)) (BK (ED @ZN @Yt @Ac5 @Q2 @QH @SG @St @Ady @WK @R7 @WB) (De @UZ @Mb @Abb @Xe @Aa4 @Aag @Acc @Ac3 @Ak7 @Ahi @Agj @Ak3)) (BK (ED @Ag3 @Agw @Akb @Aht @Agi @Ag8 @Ajl @Ah9 @Acy @Ad9 @Aky) (De @Ai2 @Ac1 @Akp @Aiv @Ahv @Alj @Aev @Aoa @Acr @Ajp @MT @Nk)) (BK (ED @J2 @Hr @X3 @GI @GV @Kn @Kc @Nw @M8 @YG @XB) (De @Z2 @Y0 @WX @Z8 @Z3 @Wq @Alp @Ahd @VZ @X7 @WM @W7)) (BK (ED @VH @ZF @Zb @VP @Xd @Aqs @Aqw @Apw @Apu @Ana @Ap6) (De @Ack @Abu @Aa6 @Ab0 @Ako @RoN @Abm @Alu @Apj @Vb @Ye @Afm)) (BK (ED @Aou @An6 @An2 @Wc @YQ @Avk @VE @Ado @Aqy @exZ @exN) (De @Akw @Al1 @Ag6 @Anv @ZZ @Agd @Agk @Amt @Any @Amb @Ax @QC)) (BK (ED @Kf @Fj @Kq @Ih @BS @not_false_eq_true @true_and @and_true @true_or @or_true @and_self) (De @false_and @and_false @neN @neI @neW @not_true_eq_false @Jf @Q6 @YH @Jw @QX @Yx)) (BK (ED @E4 @MD @Qa @JS @OJ @JX @HJ @Jh @Gm @EV @Gt) (De @Fa @Gn @Gq @EQ @HE @Gs @Fx @Gp @EW @HK @EX @G6)) (BK (ED @Hw @HL @K3 @Ig @JB @Ie @K0 @JR @HV @Nf @JN) (De @Ic @size_map @Ir @NC @Im @JF @N4 @NE @MI @J5 @MH @KN)) (BK (ED @No @Ni @J9 @QJ @Nm @Kd @ND @Ks @PY @KM @Nz) (De @PI @Rp @Bool.not_true @Bool.not_false @Bool.and_true @Bool.true_and @Bool.or_true @Bool.true_or @Bool.or_false @Bool.false_or @Bool.false_and @Bool.and_false)) (BK (ED @Bool.false_xor @Bool.xor_false @Bool.true_xor @Bool.xor_true @Bool.not_not @Bool.and_self @Bool.or_self @Int.toNat_natCast @Int.toNat_zero @Nat.add_zero @Nat.zero_add) (De @Nat.sub_zero @Int.natCast_zero @Nat.mul_zero @Nat.zero_or @Nat.or_zero @Nat.and_zero @Nat.zero_and @Nat.zero_shiftRight @decide_true @decide_false @Aj5 @Ajb)) (BK (ED @Ago @and_assoc @Ajt @Alq @Aiw @Ali @Alh @Aiq @Ajz @Ai1 @Ahs) (De @Ale @Ag5 @Ai3 @An4 @Amo @Alt @Am6 @Ao3 @Aot @Bool.false_eq_true @Bool.true_eq_false @false_implies)) (BK (ED @true_implies @Anb @Aoh @Aqa @Aqf @Aqr @Ano @Anf @Aoc @Nat.le_refl @Int.le_refl) (De @fcT @fcF @flN @Aqu @Aqq @nlz @bTF @bFT @Aop @Ca.eq_1 @Ca.eq_2 @Ca.eq_3)))
end Mv
