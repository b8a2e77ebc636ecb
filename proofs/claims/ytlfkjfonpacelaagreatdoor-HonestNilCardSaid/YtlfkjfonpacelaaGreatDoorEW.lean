/- A part. -/
import Derived.Test.YtlfkjfonpacelaaGreatDoorEV
set_option linter.all false
set_option maxRecDepth 20000
set_option maxHeartbeats 4000000
namespace Mv
open Go
variable {M:Seat}
def BC (v:BitVec 64):Dg:=Dg.mk' fun j=>if j < 24 then 0 else (v >>> (56 - 8 * (j - 24))).setWidth 8
theorem Tl (v:BitVec 64) (i:Nat):V.int .u8 (XZ (v.toNat:Int) i)=B ((v >>> (56 - 8 * i)).setWidth 8):=by
 simp only [B,XZ,BitVec.toNat_setWidth,Lb4]
 congr 1
theorem Yl:BC 0=Dg.zero:=by
 apply Dg.ext'
 intro j hj
 rw [BC,Dg.at_mk' _ _ hj,Dg.at_zero]
 split
 ·rfl
 ·simp
theorem Va (v:BitVec 64):V.ar 1 32 (fun i=>V.int .u8 (if 24≤i∧i < 24 + 8 then XZ (v.toNat:Int) (i - 24) else 0))=dg (BC v):=by
 have h:(fun i=>V.int .u8 (if 24≤i∧i < 24 + 8 then XZ (v.toNat:Int) (i - 24) else 0))=fun j=>B ((BC v).at j):=by
  funext j
  by_cases hj:j < 32
  ·rw [BC,Dg.at_mk' _ _ hj]
   by_cases h2:j < 24
   ·rw [if_pos h2,if_neg Aa];rfl
   ·rw [if_neg h2,if_pos Aa,Tl]
  ·rw [if_neg Aa]
   simp only [Dg.at,List.getD]
   rw [List.getElem?_eq_none (by rw [(BC v).h];omega)];rfl
 simp only [dg,h]
theorem GP (ok:OkM M) (v:BitVec 64) :
 Ag M 202 [W v] [] 0 (Q3 (dg (BC v)) [] 0):=by
 refine Ab ok.k202 rfl fun x hx=>?_
 refine es 30 ?_
 simp only [Agq,Aek,Cz,↓Ad,ex,Ro,AJ,AX,Ae,seval]
 refine BE (Iw ok.k312 32 24 8 (fun _=>0) (v.toNat:Int) Aa Aa Aa) False [16] [] B5 B5 rfl (by simp [Af]) (by simp only [Bo,seval,W]) (by simp only [Bo,seval]) ?_
 rintro r H' k' ⟨rfl,rfl,rfl⟩
 refine ⟨⟨by omega,fun h=>h.elim⟩,?_⟩
 have hnum:Bh [16] 64 1=[16]:=rfl
 simp only [hnum,LN,V.ren,AV,A6,BS,Ex,Z3,List.append_nil,B3,ne_eq,CL,seval]
 simp only [Va,Cz,↓Ad,ex,Ro,AJ,AX,Ae,seval]
 refine Ar.mk hx [] [] (dg (BC v)) [] 0 Am ?_ ?_ trivial ⟨rfl,rfl,rfl⟩
 ·simp only [SD,↓Ad,ex,Ro,AJ,AX,Ae,seval]
 ·simp only [Rs,↓Ad,ex,Ro,AJ,AX,Ae,seval]
def A3 (f g:Nat→BitVec 64) (pc:BitVec 64) (hl:Bool) (ex:BitVec 64):V :=
 .st 8211 (.fcons 0 (.ar 1 8192 (fun j=>W (f j))) (.fcons 8192 (.ar 1 16 (fun j=>W (g j))) (.fcons 8208 (W pc) (.fcons 8209 (.bool hl) (.fcons 8210 (W ex) .fnil)))))
def Rf:LC:=(sr [mt 20 3,A1 21 (.mksl 32 32 (.ar 32 (.int .u8)) (.t 20) (.t 20)),mt 4 21] (.seq (sr [mt 22 4,
  lN 23 0 22,
  mI 24 0] (.block 2 (.loop (sr [ak 25 .lss 24 23] (.seq (Dd 25 2) (.seq (.block 3 (sr [mt 26 24,mt 5 26] (.reg [mt 27 4,mt 28 5,mt 29 0,mt 30 5,nc 31 29,fa 32 0 31,ib 33 8192 1 32 30,lb 34 1 33,kl 35 202 [(.t 34)],ia 36 32 27 28,sb 32 36 35]))) (.reg [aI 37 .add 24 1,mt 24 37]))))))) (sr [mt 38 4,mt 2 38] .ret)))
abbrev QG (f:Nat→BitVec 64):V→Hp→Nat→Prop:=fun r H' k'=>∃ n,n≤8192∧(∀ j,n≤j→j < 8192→f j=0)∧r = .sl 0 [] 0 n 32∧H'=[(0,.ar 32 n (fun j=>dg (BC (f j))))]∧k'=1
theorem Na {x:Ctx} (ok:OkM M) (hx:x.k=0) (f g:Nat→BitVec 64) (pc:BitVec 64) (hl:Bool) (e:BitVec 64) (n:Nat) (hn:n≤8192) (hz:∀ j,n≤j→j < 8192→f j=0) :
 Bm M x (Ar M x [.tmp 2] (QG f)) [.code Rf] 0 (fr 39 [(0,.imm (A3 f g pc hl e)),(3,.int .i64 n)]) []:=by
 (refine es 40 ?_;simp (maxSteps:=2000000) only [Rf,A3,Cz,↓Ad,ex,Ro,AJ,AX,Ae,seval])
 repeat refine sd ?_
 refine An (σ:=Nat) (fun q=>q≤n) (fun q=>fr 39 [(0,.imm (A3 f g pc hl e)),(4,.sl 0 [] 0 n 32),(23,.int .i64 n),(24,.int .i64 q)])
  (fun q=>[(0,.ar 32 n (fun j=>dg (if j < q then BC (f j) else Dg.zero)))]) (fun _=>1) (fun q=>n - q) 0 Aa ?_ ?_
 ·refine Ao.fr [16] [] hx AQ Am ?_ ?_
  ·simp only [Bo,seval,A3]
  ·simp only [Bo,seval,Ws]
   intro j hj
   rw [if_neg Aa]
 ·intro q hq
  have w1:IntKind.i64.wrap ((q:Int) + 1)=((q + 1:Nat):Int):=AZ
  (refine es 40 ?_;simp (maxSteps:=2000000) only [w1,A3,Cz,↓Ad,ex,Ro,AJ,AX,Ae,seval])
  refine ⟨fun hlt=>?_,fun hge=>?_⟩
  ·have hlt:=of_decide_eq_true hlt
   repeat refine sd ?_
   refine AE (GP ok _) ⟨rfl,trivial⟩ rfl ?_
   simp only [Cz,↓Ad,ex,Ro,AJ,AX,Ae,seval]
   repeat refine sd ?_
   refine ⟨q + 1,by omega,by omega,?_⟩
   refine Ao.fr [0] [] hx AQ Am ?_ ?_
   ·simp only [Bo,seval,A3]
   ·simp only [Bo,seval]
    intro j hj
    by_cases h1:j=q
    ·rw [if_pos h1,if_pos Aa,h1]
    ·rw [if_neg h1]
     by_cases h2:j < q
     ·rw [if_pos h2,if_pos Aa]
     ·rw [if_neg h2,if_neg Aa]
  ·have hge:=of_decide_eq_false hge
   have hq:q=n:=Aa
   subst hq
   refine Ar.mk hx [0] [] (.sl 0 [] 0 q 32) [(0,.ar 32 q (fun j=>dg (BC (f j))))] 1 Am ?_ ?_ ?_ ⟨q,hn,hz,rfl,rfl,rfl⟩
   ·simp only [SD,↓Ad,ex,Ro,AJ,AX,Ae,seval]
   ·simp only [Rs,↓Ad,ex,Ro,AJ,AX,Ae,seval]
   ·simp only [Bo,seval]
    intro j hj
    rw [if_pos hj]
theorem Hz (ok:OkM M) (f g:Nat→BitVec 64) (pc:BitVec 64) (hl:Bool) (e:BitVec 64) :
 Ag M 199 [.imm (A3 f g pc hl e)] [] 0 (QG f):=by
 refine Ab ok.k199 rfl fun x hx=>?_
 refine es 30 ?_
 simp only [Aii,Afe,A3,Cz,↓Ad,ex,Ro,AJ,AX,Ae,seval]
 refine An (σ:=Nat) (fun n=>n≤8192∧∀ j,n≤j→j < 8192→f j=0) (fun n=>fr 39 [(0,.imm (A3 f g pc hl e)),(3,.int .i64 n)])
  (fun _=>[]) (fun _=>0) (fun n=>n) 8192 ⟨by omega,fun j h1 h2=>by omega⟩ ?_ ?_
 ·refine Ao.fr [] [] hx AQ Am ?_ ?_
  ·simp only [Bo,seval,A3]
  ·trivial
 ·intro n ⟨hn,hz⟩
  have tail:=Na ok hx f g pc hl e
  by_cases h0:n=0
  ·have d0:decide ((0:Int) < n)=false:=decide_eq_false Aa
   (refine es 5 ?_;simp (maxSteps:=2000000) only [d0,A3,Cz,↓Ad,ex,Ro,AJ,AX,Ae,seval])
   refine Bm.weak _ _ _ ?_ (tail n hn hz)
   refine Ao.fr [] [] hx AQ Am ?_ ?_
   ·simp only [Bo,seval,A3]
   ·trivial
  ·have d0:decide ((0:Int) < n)=true:=decide_eq_true Aa
   have w1:IntKind.i64.wrap ((n:Int) - 1)=((n - 1:Nat):Int):=AZ
   (refine es 5 ?_;simp (maxSteps:=2000000) only [d0,w1,A3,Cz,↓Ad,ex,Ro,AJ,AX,Ae,seval])
   refine ⟨by omega,fun e1=>?_,fun _=>?_⟩
   ·have e1:=of_decide_eq_true e1
    have e2:f (n - 1)=0:=BitVec.eq_of_toNat_eq (by simpa using e1)
    (refine es 5 ?_;simp (maxSteps:=2000000) only [d0,w1,A3,Cz,↓Ad,ex,Ro,AJ,AX,Ae,seval])
    refine ⟨n - 1,⟨by omega,fun j h1 h2=>?_⟩,by omega,?_⟩
    ·by_cases h3:j=n - 1
     ·rw [h3,e2] <;> rfl
     ·exact hz j Aa h2
    ·refine Ao.fr [] [] hx AQ Am ?_ ?_
     ·simp only [Bo,seval,A3]
     ·trivial
   ·refine Bm.weak _ _ _ ?_ (tail n hn hz)
    refine Ao.fr [] [] hx AQ Am ?_ ?_
    ·simp only [Bo,seval,A3]
    ·trivial
def Dp (f:Nat→BitVec 64):Nat→Nat→Dg
 | 0,q=>if q < 8192 then BC (f q) else Dg.zero
 | h + 1,q=>Ch (Dp f h (2 * q)) (Dp f h (2 * q + 1))
def WE (f:Nat→BitVec 64) (n:Nat):List Dg:=(List.range n).map (fun j=>BC (f j))
theorem G9 (f:Nat→BitVec 64) (n:Nat):(WE f n).length=n:=by simp [WE]
theorem OM (f:Nat→BitVec 64) (n j:Nat) (hj:j < n) (d:Dg):(WE f n).getD j d=BC (f j):=by
 simp [WE,List.getD,List.getElem?_map,List.getElem?_range hj]
theorem Gd (f:Nat→BitVec 64) (n:Nat) (hn:n≤8192) (hz:∀ j,n≤j→j < 8192→f j=0):∀ h q,HS (WE f n) h q=Dp f h q
 | 0, q => by
   rw [Aat,Dp]
   by_cases h1:q < n
   ·rw [OM _ _ _ h1,if_pos Aa]
   ·rw [Dv (by rw [G9];omega)]
    split
    ·rw [hz q Aa Aa,Yl]
    ·rfl
 | h + 1,q=>by rw [SJ,Dp,Gd f n hn hz h,Gd f n hn hz h]
theorem El {M:Seat} (ok:OkM M) (f g:Nat→BitVec 64) (pc:BitVec 64) (hl:Bool) (e:BitVec 64) :
 Ag M 51 [.imm (A3 f g pc hl e)] [] 0 (Q3 (Ah (dg (Dp f 13 0)) .nili) [] 0):=by
 refine Ab ok.k51 rfl fun x hx=>?_
 refine es 30 ?_
 simp only [f51,c51,AD,AK,Cz,↓Ad,ex,Ro,AJ,AX,Ae,seval]
 refine BE (Hz ok f g pc hl e) False [] [] List.nodup_nil B5 rfl B5 (by simp only [Bo,Bi,A3,seval]) trivial ?_
 rintro v H' k' ⟨n,hn,hz,rfl,rfl,rfl⟩
 refine ⟨⟨by omega,fun h=>h.elim⟩,?_⟩
 have hnum:Bh [] 80 1=[80]:=rfl
 simp only [hnum,LN,V.ren,AV,A6,BS,Ex,Z3,List.append_nil,B3,ne_eq,CL,seval]
 have hl13:(WE f n).length≤2 ^ 13:=by rw [G9];omega
 refine JL [80] (RC ok 13 Aa (WE f n) hl13) ⟨rfl,?_,trivial⟩ rfl ?_
 ·simp only [row,G9,Bo,seval]
  intro j hj
  exact (OM _ _ _ hj _).symm
 simp only [Gd f n hn hz,A6,Ah,Cz,↓Ad,ex,Ro,AJ,AX,Ae,seval,LN,V.ren,AV,Ex,Z3,List.append_nil]
 refine Ar.mk hx [] [] (Ah (dg (Dp f 13 0)) .nili) [] 0 Am ?_ ?_ trivial ⟨rfl,rfl,rfl⟩
 ·simp only [SD,↓Ad,ex,Ro,AJ,AX,Ae,seval]
  rfl
 ·simp only [Rs,↓Ad,ex,Ro,AJ,AX,Ae,seval]
theorem Jz {M:Seat} (ok:OkM M) (f g:Nat→BitVec 64) (pc:BitVec 64) (hl:Bool) (e:BitVec 64) (i:Nat) (hi:i < 8192) :
 Ag M 50 [.imm (A3 f g pc hl e),.int .u64 i] [] 0 (Q3 (Ah (.st 2 (.fcons 0 (W (f i)) (.fcons 1 (.sl 0 [] 0 13 32) .fnil))) .nili) [(0,.ar 32 13 (fun h=>dg (Dp f h ((i / 2 ^ h) ^^^ 1))))] 1):=by
 refine Ab ok.k50 rfl fun x hx=>?_
 refine es 30 ?_
 have d1:decide ((8192:Int)≤i)=false:=decide_eq_false Aa
 simp only [f50,c50,d1,AD,AK,Cz,↓Ad,ex,Ro,AJ,AX,Ae,seval]
 refine BE (Hz ok f g pc hl e) False [] [] List.nodup_nil B5 rfl B5 (by simp only [Bo,Bi,A3,seval]) trivial ?_
 rintro v H' k' ⟨n,hn,hz,rfl,rfl,rfl⟩
 refine ⟨⟨by omega,fun h=>h.elim⟩,?_⟩
 have hnum:Bh [] 144 1=[144]:=rfl
 have w1:IntKind.i64.wrap (i:Int)=i:=AY Aa
 simp only [hnum,w1,LN,V.ren,AV,A6,BS,Ex,Z3,List.append_nil,B3,ne_eq,CL,seval]
 have hl13:(WE f n).length≤2 ^ 13:=by rw [G9];omega
 refine BE (Rl ok 13 Aa Aa (WE f n) hl13 i hi) False [] [144] List.nodup_nil B5 rfl B5 ⟨rfl,?_,rfl,trivial⟩ trivial ?_
 ·simp only [row,G9,Bo,seval]
  intro j hj
  exact (OM _ _ _ hj _).symm
 rintro v H' k' ⟨rfl,rfl,rfl⟩
 refine ⟨⟨by omega,fun h=>h.elim⟩,?_⟩
 have hnum2:Bh [] 192 1=[192]:=rfl
 simp only [hnum2,Ah,CJ,Gd f n hn hz,LN,V.ren,AV,A6,BS,Ex,Z3,List.append_nil,B3,ne_eq,CL,seval]
 simp only [A3,Cz,↓Ad,ex,Ro,AJ,AX,Ae,seval]
 repeat refine sd ?_
 refine Ar.mk hx [192] [] (Ah (.st 2 (.fcons 0 (W (f i)) (.fcons 1 (.sl 0 [] 0 13 32) .fnil))) .nili) [(0,.ar 32 13 (fun h=>dg (Dp f h ((i / 2 ^ h) ^^^ 1))))] 1 Am ?_ ?_ ?_ ⟨rfl,rfl,rfl⟩
 ·simp only [SD,↓Ad,ex,Ro,AJ,AX,Ae,seval]
 ·simp only [Rs,↓Ad,ex,Ro,AJ,AX,Ae,seval]
 ·simp only [Bo,seval]
theorem Ow (ts:List Nat):AD true (.iface ts) .nili .nili=True:=by simp [AD]
theorem P5 (ts:List Nat):AK (.iface ts) .nili .nili=true:=rfl
theorem Aci (c:Bool) (ts:List Nat) (t:Nat) (v:V):AD c (.iface ts) (.ifc t v) .nili=True:=by simp [AD]
theorem Abd (ts:List Nat) (t:Nat) (v:V):AK (.iface ts) (.ifc t v) .nili=false:=by cases v <;> rfl
theorem Abn (c:Bool) (i:Nat) (p:List Stp):AD c .ptr (.ptr i p) .nilp=True:=by simp [AD]
theorem Adb (i:Nat) (p:List Stp):AK .ptr (.ptr i p) .nilp=false:=rfl
theorem UU (c:Bool) (v:V):AD c .ptr (.imm v) .nilp=True:=by simp [AD]
theorem Uo (v:V):AK .ptr (.imm v) .nilp=false:=rfl
def Ai4 (m r:Nat) (pc:BitVec 64) (hl:Bool) (ex:BitVec 64):V :=
 .st 5 (.fcons 0 (.sl m [] 0 8192 1) (.fcons 1 (.sl r [] 0 16 1) (.fcons 2 (W pc) (.fcons 3 (.bool hl) (.fcons 4 (W ex) .fnil)))))
theorem Avs (H:Hp) (m z:List Nat):Az H m z (W 0) (V.int .u64 0)=True:=by simp only [W,Az];exact eq_true rfl
theorem Av9 (H:Hp) (m z:List Nat):Az H m z (W 0#64) (V.int .u64 0)=True:=Avs H m z
theorem Avj {M:Seat} (ok:OkM M) :
 Ag M 74 [.nils] [] 0 (Q3 (Ah (.ptr 0 []) .nili) [(0,A3 (fun _=>0) (fun _=>0) 0 false 0)] 1):=by
 refine Ab ok.k74 rfl fun x hx=>?_
 refine es 30 ?_
 have d1:decide ((8192:Int) < 0)=false:=rfl
 simp only [f74,c74,d1,Cz,↓Ad,ex,Ro,AJ,AX,Ae,seval]
 refine Ar.mk hx [96] [] (Ah (.ptr 0 []) .nili) [(0,A3 (fun _=>0) (fun _=>0) 0 false 0)] 1 Am ?_ ?_ ?_ ⟨rfl,rfl,rfl⟩
 ·simp only [SD,↓Ad,ex,Ro,AJ,AX,Ae,seval]
 ·simp only [Rs,↓Ad,ex,Ro,AJ,AX,Ae,seval]
 ·simp only [A3,Avs,Av9,Bo,seval]
theorem Hj {M:Seat} (ok:OkM M) (f g:Nat→BitVec 64) (pc:BitVec 64) (hl:Bool) (e:BitVec 64) :
 Ag M 49 [.imm (A3 f g pc hl e)] [] 0 (Q3 (.ptr 0 []) [(0,A3 f g pc hl e)] 1):=by
 refine Ab ok.k49 rfl fun x hx=>?_
 refine es 30 ?_
 simp only [f49,c49,A3,UU,Uo,Cz,↓Ad,ex,Ro,AJ,AX,Ae,seval]
 refine Ar.mk hx [96] [] (.ptr 0 []) [(0,A3 f g pc hl e)] 1 Am ?_ ?_ ?_ ⟨rfl,rfl,rfl⟩
 ·simp only [SD,↓Ad,ex,Ro,AJ,AX,Ae,seval]
 ·simp only [Rs,↓Ad,ex,Ro,AJ,AX,Ae,seval]
 ·simp only [A3,Bo,seval]
def Af3 (f g:Nat→BitVec 64) (pc:BitVec 64) (hl:Bool) (xt:BitVec 64) (m:Nat):Hp :=
 [(m,A3 f g pc hl xt),(m + 1,Ai4 (m + 2) (m + 3) pc hl xt),(m + 2,.ar 1 8192 (fun j=>W (f j))),(m + 3,.ar 1 16 (fun j=>W (g j)))]
theorem BH (m:List Nat) (f g:Nat→BitVec 64) (pc:BitVec 64) (hl:Bool) (xt:BitVec 64):(A3 f g pc hl xt).ren m=A3 f g pc hl xt:=rfl
theorem P2 (f g:Nat→BitVec 64) (pc:BitVec 64) (hl:Bool) (xt:BitVec 64):(A3 f g pc hl xt).solid=true:=rfl
theorem IW (H:Hp) (m z:List Nat) (f g:Nat→BitVec 64) (pc:BitVec 64) (hl:Bool) (xt:BitVec 64):Az H m z (A3 f g pc hl xt) (A3 f g pc hl xt):=by
 simp only [A3,Bo,seval]
def pth (f:Nat→BitVec 64) (i:Nat):List Dg:=(List.range 13).map (fun h=>Dp f h ((i / 2 ^ h) ^^^ 1))
def FI (f:Nat→BitVec 64) (i:Nat) (v:BitVec 64) (j:Nat):BitVec 64:=if j=i then v else f j
def Zh:=(Bb @NM @FI.eq_1)
theorem PE {M:Seat} {f:Nat} {us us0:List V} {H:Hp} {n:Nat} {K:V→Hp→Prop} {v:V} (z:List Nat) (hr:Ag M f us0 [] 0 (Q3 v [] 0)) (hus:Bd H [] z us0 us) (hv:v.ren (Bh [] n 0)=v) (hn:AC v) (hK:K v H):AR M f us H n K:=by
 refine BE hr True [] z List.nodup_nil B5 rfl B5 hus trivial ?_
 rintro v' H' k' ⟨rfl,rfl,rfl⟩
 refine ⟨⟨by omega,fun _=>⟨hn,fun id h=>by simp [Af] at h⟩⟩,?_⟩
 rw [hv]
 simpa [AV,A6] using hK
theorem Aco (c:Bool):AD c .ptr .nilp .nilp=True:=rfl
theorem Abz:AK .ptr .nilp .nilp=true:=rfl
theorem Ac9 (c:Bool) (ts:List Nat) (t:Nat) (v:V):AD c (.iface ts) .nili (.ifc t v)=True:=by cases v <;> simp [AD]
theorem Ad7 (ts:List Nat) (t:Nat) (v:V):AK (.iface ts) .nili (.ifc t v)=false:=by cases v <;> rfl
theorem Aeu (c a b:Bool):AD c .bool (.bool a) (.bool b)=True:=rfl
theorem Ai1 (a b:Bool):AK .bool (.bool a) (.bool b)=(a == b):=by cases a <;> cases b <;> rfl
theorem Ae8 (c:Bool) (k:IntKind) (a b:Int):AD c .int (.int k a) (.int k b)=True:=by simp [AD]
theorem Aft (k k':IntKind) (a b:Int):AK .int (.int k a) (.int k' b)=decide (a=b):=rfl
theorem Ahp (c:Bool) (a b:Int):AD c (.iface [74]) (.ifc 74 (.int .i64 a)) (.ifc 74 (.int .i64 b))=True:=by simp [AD]
theorem Ait (ts:List Nat) (t:Nat) (a b:Int):AK (.iface ts) (.ifc t (.int .i64 a)) (.ifc t (.int .i64 b))=decide (a=b):=by simp [AK]
theorem Ail (a b:Prop):(bif true then a else b)=a:=rfl
theorem Ae7 (a b:Prop):(bif false then a else b)=b:=rfl
theorem Ajv (f:X→V) (a:X) (l:List X):(a :: l).map f=f a :: l.map f:=rfl
theorem Ajd (f:X→V):([]:List X).map f=[]:=rfl
theorem Ajb {a b:Bool}:(bif true then a else b)=a:=rfl
theorem Aed (f:X→V):(none:Option X).map f=none:=rfl
theorem Aem (f:X→V) (a:X):(some a).map f=some (f a):=rfl
theorem Zk (a:V) (l m:List V):a :: l ++ m=a :: (l ++ m):=rfl
theorem fcT (a b:List (Nat × Hp)):(bif true then a else b)=a:=rfl
theorem fcF (a b:List (Nat × Hp)):(bif false then a else b)=b:=rfl
theorem flN (f:Nat × Nat × V→Bool):([]:List (Nat × Nat × V)).filter f=[]:=rfl
theorem Ajg (a:LOp) (l:List LOp):(a :: l).length=l.length + 1:=rfl
theorem neN (a b:Nat):(a ≠ b) = ¬ (a=b):=rfl
theorem neI (a b:Int):(a ≠ b) = ¬ (a=b):=rfl
theorem neW (a b:BitVec 64):(a ≠ b) = ¬ (a=b):=rfl
theorem nlz (n:Nat):(n < 0)=False:=B5
theorem bTF:(true == false)=false:=rfl
theorem bFT:(false == true)=false:=rfl
theorem Aj0:([]:List LOp).length=0:=rfl
def LG:=(Hq (Bb (BT @Agf @T8 @YT @Xb @U3 @U5 @Tg @Adj @XB @Aa6 @Abf) (BT @S0 @Xr @Rt @XM @YV @XU @Vk @Th @Si @Xm @WR)) (Bb (BT @W6 @WB @VC @WF @XR @VE @WV @Wc @Yc @Vw @Vb) (BT @Acr @Zb @Acj @Xz @XA @Aea @XW @Yh @Aaw @YN @Ahj)) (Bb (BT @Aix @Ag9 @Adl @Ac3 @Aaf @Ad6 @TQ @U0 @S1 @W3 @Xd) (FU @WM @UD @ZS @ZC @X3 @U1 @Abo @XH @Ab5 @Aba @Aeb @Vf)) (Bb (BT @Yy @WN @UE @Y5 @Y8 @Ado @Ye @UN @OR @ZD @W2) (BT @X9 @Rw @VP @MP @Sc @XI @T5 @Yj @Adk @Adp @Xn)) (Bb (BT @Xo @Yg @T3 @Qk @VB @R6 @KS @YZ @Vz @XN @WI) (FU @Xh @Y7 @Adu @Aar @Ad5 @Aab @Aak @Ab1 @ZE @ZU @Adi @ZR)) (Bb (BT @Abs @ZN @X7 @WQ @Abe @Adf @Xi @ZW @Acf @Ady @Aa5) (BT @Xx @Aep @Xj @Abj @Ms @Mj @Jg @GC @GK @FF @FL)) (Bb (BT @Ix @II @Ll @Mn @V5 @Wp @V8 @V6 @VW @TT @Wd) (FU @Wi @Ac6 @Ads @Vd @UG @TF @Tr @UP @UI @UH @TN @Un)) (Bb (BT @Ajf @Ajh @Aj5 @Ajs @Afr @Ai7 @Yr @YY @YR @X8 @Ad2) (BT @RoN @WJ @Agx @Aec @R1 @Tv @Za @Agg @Ah7 @Aid @VJ)) (Bb (BT @TG @U7 @Vv @XC @Ai9 @exZ @exN @ZO @Ahb @Aby @Ahm) (BT @XJ @Abg @Aae @Afu @Ahc @Aib @Ad @PT @JA @Ed @JE)) (Bb (BT @Hr @BL @not_false_eq_true @true_and @and_true @true_or @or_true @and_self @false_and @and_false @neN) (FU @neI @neW @not_true_eq_false @Ic @O9 @TO @Ii @OD @Ut @DQ @Lg @OK)) (Bb (BT @IS @Nq @JS @Gk @Ik @Fw @DZ @Fv @E4 @Fl @Ff) (BT @Em @G8 @Fr @Ea @Fy @E2 @GB @Eg @Fx @Gt @Gg)) (Bb (BT @JZ @GV @IY @Hh @JR @IJ @GW @Lk @Iz @GT @IZ) (FU @Hf @Ma @Hi @J1 @M0 @Lo @Lt @JD @L6 @Je @Mi @Md)) (Bb (BT @IA @O7 @Ly @I6 @L7 @Iv @OT @Jp @LL @O6 @P3) (BT @Bool.not_true @Bool.not_false @Bool.and_true @Bool.true_and @Bool.or_true @Bool.true_or @Bool.or_false @Bool.false_or @Bool.false_and @Bool.and_false @Bool.false_xor)) (Bb (BT @Bool.xor_false @Bool.true_xor @Bool.xor_true @Bool.not_not @Bool.and_self @Bool.or_self @Int.toNat_natCast @Int.toNat_zero @Nat.add_zero @Nat.zero_add @Nat.sub_zero) (FU @Int.natCast_zero @Nat.mul_zero @Nat.zero_or @Nat.or_zero @Nat.and_zero @Nat.zero_and @Nat.zero_shiftRight @decide_true @decide_false @Ac8 @Aa3 @Adm)) (Bb (BT @and_assoc @Ow @P5 @Aci @Abd @Ac9 @Ad7 @Abn @Adb @UU @Uo) (BT @Aco @Abz @Aeu @Ai1 @Ae8 @Aft @Ahp @Ait @Bool.false_eq_true @Bool.true_eq_false @false_implies)) (Bb (BT @true_implies @Ail @Ae7 @Ajv @Ajd @Ajb @Aed @Aem @Zk @Nat.le_refl @Int.le_refl) (FU @fcT @fcF @flN @Ajg @Aj0 @nlz @bTF @bFT @Aij @BQ.eq_1 @BQ.eq_2 @BQ.eq_3)))
end Mv
