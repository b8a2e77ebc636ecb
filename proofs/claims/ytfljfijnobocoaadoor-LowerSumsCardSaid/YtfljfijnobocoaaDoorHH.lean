/- A part. -/
import Derived.Test.YtfljfijnobocoaaDoorHG
set_option linter.all false
set_option maxRecDepth 20000
set_option maxHeartbeats 4000000
namespace Mv
open Go
structure ImW (W:Nat→BitVec 64) (fz ent k n len:Nat) (S U:Cd):Prop where
 ag:Ag W fz (fun j=>[1,ent].getD j 0) U
 wf:WFc U
 eeq:ent=U.words.length + 3
 jm:W U.words.length=Bn (29:Nat) 0 0 0 0 ((U.words.length + 2:Nat):Int)
 hl:W (U.words.length + 2)=Bn (0:Nat) 0 0 0 0 0
 f0:W ent=Bn (28:Nat) 0 14 15 0 ((3:Nat):Int)
 fl:∀ j,j < n→W (ent + 1 + j)=Bn (27:Nat) (1 + j) 14 0 0 (j:Nat)
 fo:W (ent + 1 + n)=Bn (k:Nat) 0 1 2 3 0
 fj:W (ent + 2 + n)=Bn (29:Nat) 0 0 0 0 ((ent + n + 4:Nat):Int)
 fd:W (ent + 4 + n)=Bn (27:Nat) 15 14 0 0 ((3:Nat):Int)
 fr:W (ent + 5 + n)=Bn (33:Nat) 0 15 0 0 0
 el:len=ent + n + 7
def m0 (P:List Fu) (base:Int):Cd:=r1 (BJ P base) 0 0
theorem I9 (k n:Nat) (x y:Ex) (base:Int) (hk:1≤k∧k≤25) (hn:n=1 ∨ n=2 ∨ n=3)
 (hst:∃ m q,Sta (m0 (pS k n x y) base) (AO 8 (mX x y) 0 (m0 (pS k n x y) base)) 0 m q)
 (hbad:(AO 8 (mX x y) 0 (m0 (pS k n x y) base)).bad=[]) (hlen:(AO 8 (mX x y) 0 (m0 (pS k n x y) base)).words.length < 8192) (hmo:(AO 8 (mX x y) 0 (m0 (pS k n x y) base)).most < 8192) :
 ImW (fun i=>(Bj (pS k n x y) base).words.getD i 0#64) (1 + (AO 8 (mX x y) 0 (m0 (pS k n x y) base)).most) ((AO 8 (mX x y) 0 (m0 (pS k n x y) base)).words.length + 3) k n (Bj (pS k n x y) base).words.length (m0 (pS k n x y) base) (AO 8 (mX x y) 0 (m0 (pS k n x y) base)) ∧
  (Bj (pS k n x y) base).frames=[1 + (AO 8 (mX x y) 0 (m0 (pS k n x y) base)).most,4]:=by
 have w00:WFw (BJ (pS k n x y) base):=(FnI.zero (pS k n x y) base fun _=>0).wf;have hL:CR (pS k n x y) (BJ (pS k n x y) base) 2=IY (IY (BJ (pS k n x y) base) 0 0 0 (rt (mX x y) Ch)) 1 3 3 (rt (fX k n) Ch):=rfl;have hfr0:=hst;obtain ⟨F0,wU,lB⟩:=Wj (BJ (pS k n x y) base) 0 0 (mX x y) Ch w00 hst (by show (AO 8 (mX x y) 0 (m0 (pS k n x y) base)).words.length < _;omega) (by show 0 + 1 + (AO 8 (mX x y) 0 (m0 (pS k n x y) base)).most < _;omega);have hfrm:(IY (BJ (pS k n x y) base) 0 0 0 (rt (mX x y) Ch)).frames=[1 + (AO 8 (mX x y) 0 (m0 (pS k n x y) base)).most]:=by
  unfold IY;rw [(Fq _ _ _ _).2.2.2.1,PB];have e:∀ T i lc,(BZ (r5 T) i lc).frames=T.frames∧(BZ (r5 T) i lc).most=T.most:=fun T i lc=>by unfold BZ;split <;> exact ⟨rfl,rfl⟩
  show (BZ (r5 (AO 8 (mX x y) 0 (m0 (pS k n x y) base))) 0 0).frames ++ [0 + 1 + (BZ (r5 (AO 8 (mX x y) 0 (m0 (pS k n x y) base))) 0 0).most]=_;obtain ⟨m,q,h⟩:=hst;rw [(e _ _ _).1,(e _ _ _).2,h.frames];simp [m0,r1,Dt,BJ,cd0,A5,IW]
 change FnW (BJ (pS k n x y) base) _ 0 0 (0 + 1 + (AO 8 (mX x y) 0 (m0 (pS k n x y) base)).most) (AO 8 (mX x y) 0 (m0 (pS k n x y) base)) at F0;change WFc (AO 8 (mX x y) 0 (m0 (pS k n x y) base)) at wU;clear lB;have hc:Bj (pS k n x y) base=IW (G1 (Dv (CR (pS k n x y) (BJ (pS k n x y) base) 2) (CR (pS k n x y) (BJ (pS k n x y) base) 2).calls (CR (pS k n x y) (BJ (pS k n x y) base) 2).entries (fun _=>true) (CR (pS k n x y) (BJ (pS k n x y) base) 2).calls.length) (Dv (CR (pS k n x y) (BJ (pS k n x y) base) 2) (CR (pS k n x y) (BJ (pS k n x y) base) 2).calls (CR (pS k n x y) (BJ (pS k n x y) base) 2).entries (fun _=>true) (CR (pS k n x y) (BJ (pS k n x y) base) 2).calls.length).bad (Dv (CR (pS k n x y) (BJ (pS k n x y) base) 2) (CR (pS k n x y) (BJ (pS k n x y) base) 2).calls (CR (pS k n x y) (BJ (pS k n x y) base) 2).entries (fun _=>true) (CR (pS k n x y) (BJ (pS k n x y) base) 2).calls.length).bad.length) 18446744073709551615#64:=rfl;rw [hL] at hc;have l00:(BJ (pS k n x y) base).words.length=1:=rfl;have en0:(BJ (pS k n x y) base).entries=[]:=rfl;generalize AO 8 (mX x y) 0 (m0 (pS k n x y) base)=U at *
 generalize BJ (pS k n x y) base=S0 at *
 generalize IY S0 0 0 0 (rt (mX x y) Ch)=T0 at *
 have lT0:=F0.len;rw [if_pos rfl] at lT0;have wT0:WFw T0:=by
  have h1:=wU.bl;have h2:=wU.cl;refine ⟨by rw [F0.bad];omega,by rw [F0.calls];omega,fun p hp=>?_,fun p hp=>?_,by rw [F0.calls];exact wU.cs⟩
  ·rw [F0.calls] at hp;have:=wU.ck p hp;omega
  ·rw [F0.bad] at hp;have:=wU.bk p hp;omega
 have hU1:=Amk k n (r1 T0 1 3) hk.2 hn;obtain ⟨q1,q2,q3,q4,q5,q6,m,q,q7⟩:=Qt (r1 T0 1 3) n;have lR:(r1 T0 1 3).words.length=T0.words.length + 1:=Aj ..;have hsta1:∃ m q,Sta (r1 T0 1 3) (AO 8 (fX k n) 0 (r1 T0 1 3)) 0 m q:=by
  rw [hU1];exact ⟨_,_,q7.tp.trans (Sta.em _ _ _ _ _ _ _) m (Nat.le_refl _) (Nat.zero_le _)⟩
 have lU1:(AO 8 (fX k n) 0 (r1 T0 1 3)).words.length=T0.words.length + n + 2:=by
  rw [hU1,Aj,show ∀ X t,(Bp X t).words=X.words from fun _ _=>rfl,q6,lR];omega
 have mU1:(AO 8 (fX k n) 0 (r1 T0 1 3)).most=0:=by
  rw [hU1];show (Lr (r1 T0 1 3) n).most=0;rw [q4];rfl
 have sU1:(AO 8 (fX k n) 0 (r1 T0 1 3)).steps=[]:=by
  rw [hU1];show (Lr (r1 T0 1 3) n).steps=[]
  rw [q1];rfl
 have cU1:(AO 8 (fX k n) 0 (r1 T0 1 3)).calls=U.calls:=by
  rw [hU1];show (Lr (r1 T0 1 3) n).calls=U.calls;rw [q2];exact F0.calls
 have bU1:(AO 8 (fX k n) 0 (r1 T0 1 3)).bad=[]:=by
  rw [hU1];show (Lr (r1 T0 1 3) n).bad=[]
  rw [q3];exact F0.bad.trans hbad
 have x1:Ext (r1 T0 1 3) (AO 8 (fX k n) 0 (r1 T0 1 3)):=by
  rw [hU1];exact ((So _ n).trans (Ext.tp _ _)).trans (Ext.ei ..)
 have aL:∀ j,j < n→(AO 8 (fX k n) 0 (r1 T0 1 3)).words.getD (T0.words.length + 1 + j) 0#64=Bn (27:Nat) (1 + j) 14 0 0 (j:Nat):=fun j hj=>by
  rw [hU1,(Ext.ei (Bp (Lr (r1 T0 1 3) n) (r1 T0 1 3).temps) k 0 1 2 3 0).pre _ (by show _ < (Lr (r1 T0 1 3) n).words.length;rw [q6,lR];omega),← lR];exact Z7 _ j n hj
 have aO:(AO 8 (fX k n) 0 (r1 T0 1 3)).words.getD (T0.words.length + 1 + n) 0#64=Bn (k:Nat) 0 1 2 3 0:=by
  rw [hU1,show T0.words.length + 1 + n=(Bp (Lr (r1 T0 1 3) n) (r1 T0 1 3).temps).words.length by show _=(Lr (r1 T0 1 3) n).words.length;rw [q6,lR]];exact CD _ _
 obtain ⟨F1,wU1,lB⟩:=Wj T0 1 3 (fX k n) Ch wT0 hsta1 (by rw [lU1];omega) (by rw [mU1];omega);have hfrm1:(IY T0 1 3 3 (rt (fX k n) Ch)).frames=T0.frames ++ [4]:=by
  unfold IY;rw [(Fq _ _ _ _).2.2.2.1,PB];have e:∀ T i lc,(BZ (r5 T) i lc).frames=T.frames∧(BZ (r5 T) i lc).most=T.most:=fun T i lc=>by unfold BZ;split <;> exact ⟨rfl,rfl⟩
  show (BZ (r5 (AO 8 (fX k n) 0 (r1 T0 1 3))) 1 3).frames ++ [3 + 1 + (BZ (r5 (AO 8 (fX k n) 0 (r1 T0 1 3))) 1 3).most]=_;obtain ⟨m,q,h⟩:=hsta1;rw [(e _ _ _).1,(e _ _ _).2,h.frames,mU1];rfl
 clear lB hU1 hsta1;rw [mU1] at F1;generalize AO 8 (fX k n) 0 (r1 T0 1 3)=U1 at *
 generalize IY T0 1 3 3 (rt (fX k n) Ch)=T1 at *
 have lT1:=F1.len;rw [if_neg Aa] at lT1;have cT1:T1.calls=U.calls:=F1.calls.trans cU1;have bT1:T1.bad=[]:=F1.bad.trans bU1;have eT1:T1.entries=[1,T0.words.length]:=by rw [F1.entries,F0.entries,en0,l00];rfl
 obtain ⟨z1,z2,z3,z4,z5,z6,z7,z8,z9,z10,z11,z12⟩:=FW T1 T1.calls T1.entries (fun _=>true) T1.calls.length;rw [z7,bT1] at hc;have hca:∀ p ∈ T1.calls,p.1 < T1.words.length:=fun p hp=>by rw [cT1] at hp;have:=wU.ck p hp;omega
 have hpw:T1.calls.Pairwise fun p q=>p.1 < q.1:=by rw [cT1];exact wU.cs
 have hW0:∀ i,i < T1.words.length→(∀ p ∈ U.calls,p.1 ≠ i)→(Bj (pS k n x y) base).words.getD i 0#64=T1.words.getD i 0#64:=fun i hi h=>by
  rw [hc];refine ((Ext.em _ _).pre i (by show i < (Dv T1 T1.calls T1.entries (fun _=>true) T1.calls.length).words.length;omega)).trans ?_;exact Sd T1 T1.calls T1.entries hca i (by rw [cT1];exact h) _ (Nat.le_refl _)
 have hW1:∀ p ∈ U.calls,(Bj (pS k n x y) base).words.getD p.1 0#64=O4 (T1.words.getD p.1 0#64) (T1.entries.getD p.2 0):=fun p hp=>by
  rw [hc];rw [← cT1] at hp;have h1:=hca p hp;refine ((Ext.em _ _).pre p.1 (by show p.1 < (Dv T1 T1.calls T1.entries (fun _=>true) T1.calls.length).words.length;omega)).trans ?_;obtain ⟨j,hj,rfl⟩:=List.getElem_of_mem hp;exact Tb T1 T1.calls T1.entries hca hpw j hj _ hj (Nat.le_refl _)
 have hlo:∀ i,i < U1.words.length→T1.words.getD i 0#64=U1.words.getD i 0#64:=fun i hi=>by rw [F1.at' i hi,sU1];simp
 have hlo0:∀ i,i < T0.words.length→T1.words.getD i 0#64=T0.words.getD i 0#64:=fun i hi=>by
  rw [hlo i Aa,x1.pre i Aa];exact (Ext.ei (Dt T0 1) 28 0 14 15 0 3).pre i hi
 have hnc:∀ i,U.words.length≤i→∀ p ∈ U.calls,p.1 ≠ i:=fun i hi p hp=>by have:=wU.ck p hp;omega
 have hhi:∀ i,U.words.length≤i→i < T1.words.length→(Bj (pS k n x y) base).words.getD i 0#64=T1.words.getD i 0#64:=fun i h1 h2=>hW0 i h2 (hnc i h1);rw [← lT0];refine ⟨⟨⟨fun i hi h1 h2=>?_,fun i hi h2=>?_,fun p hp h1=>?_⟩,wU,lT0,?_,?_,?_,fun j hj=>?_,?_,?_,?_,?_,?_⟩,?_⟩
 ·rw [hW0 i Aa h2,hlo0 i Aa,F0.at' i hi,if_neg h1]
 ·have:=wU.sk i hi;rw [hW0 i Aa h2,hlo0 i Aa,F0.at' i this,if_pos hi,Nat.zero_add]
 ·have:=wU.ck p hp;rw [hW1 p hp,hlo0 p.1 Aa,F0.at' p.1 this,if_neg h1,eT1]
 ·skip
  rw [hhi _ Aa Aa,hlo0 _ Aa,F0.jmp]
 ·skip
  rw [hhi _ Aa Aa,hlo0 _ Aa,F0.hlt rfl]
 ·skip
  rw [hhi _ Aa Aa,hlo _ Aa,x1.pre _ Aa];exact CD _ _
 ·skip
  rw [hhi _ Aa Aa,hlo _ Aa,aL j hj]
 ·skip
  rw [hhi _ Aa Aa,hlo _ Aa,aO]
 ·have:=F1.jmp
  skip
  rw [lU1] at this;rw [hhi _ Aa Aa,show T0.words.length + 2 + n=T0.words.length + n + 2 by omega,this]
 ·have:=F1.ld Aa
  skip
  rw [lU1] at this;rw [hhi _ Aa Aa,show T0.words.length + 4 + n=T0.words.length + n + 2 + 2 by omega,this]
 ·have:=F1.jr Aa
  skip
  rw [lU1] at this;rw [hhi _ Aa Aa,show T0.words.length + 5 + n=T0.words.length + n + 2 + 3 by omega,this]
 ·rw [hc];show (IW (Dv T1 T1.calls T1.entries (fun _=>true) T1.calls.length) 18446744073709551615#64).words.length=_;rw [show ∀ (X:Cd) w,(IW X w).words.length=X.words.length + 1 from fun X w=>by simp [IW],z12];omega
 ·rw [hc];show (Dv T1 T1.calls T1.entries (fun _=>true) T1.calls.length).frames=_;rw [z4,hfrm1,hfrm];rfl
structure RgP (P:List Fu) (c:Nat→Nat):Prop where
 ne:P ≠ []
 len:P.length≤64
 par:∀ i,i < P.length→0≤Db P i∧Db P i≤Bi P i∧Bi P i≤24
 par0:Db P 0=0
 body:∀ i (h:i < P.length),RB P i 16 (P[i]).body (c i)
 sum:((List.range P.length).map c).sum≤6000
theorem Kv {M:Seat} (ok:OkCk M) (P:List Fu) (c:Nat→Nat) (h:RgP P c):As M 179 [FC P] [] 0 (Q3 .nili [] 0):=by
 refine Ac ok.k179 rfl fun x hx=>?_;have hne:=h.ne;have hl64:=h.len;have hl0:0 < P.length:=List.length_pos_iff.2 hne;have hs6:=h.sum;have hsl:∀ H m z,Aw H m z (.lst 3 P.length (BW P)) (.lst 3 P.length (BW P)):=fun H m z=>by rw [← BD P hne];exact En H m z P
 have hrl:∀ a,(V.lst 3 P.length (BW P)).ren a = .lst 3 P.length (BW P):=fun a=>by rw [← BD P hne];exact Ad a P
 have hck:∀ sz i,Lg P sz i = .st 5 (.fcons 0 (.int .i64 sz) (.fcons 1 (.bool false) (.fcons 2 (.bool false) (.fcons 3 (.lst 3 P.length (BW P)) (.fcons 4 (.int .i64 i) .fnil))))):=fun sz i=>by rw [Lg,BD P hne]
 rw [BD P hne];refine eX ?_;simp only [Ahb,Aoe,LZ,seval];refine Au (σ:=Nat) (fun j=>j≤P.length) (fun j=>fr 87 [(0,.lst 3 P.length (BW P)),(3,.ptr 0 []),(9,.lst 3 P.length (BW P)),(10,.int .i64 P.length),(11,.int .i64 j)]) (fun j=>[(0,Lg P ((List.range j).map c).sum (j - 1))]) (fun _=>1) (fun j=>P.length - j) 0 (Nat.zero_le _) ?_ ?_
 ·refine Av.fr [48] [] hx Bg Ab ?_ ?_
  ·simp only [LY,seval,hsl]
  ·simp only [hck,LY,seval,hsl,List.range_zero,List.map_nil,List.sum_nil,Nat.add_zero]
 intro j hj;refine eX ?_;simp only [hck];by_cases hin:j=P.length
 ·have d0:((j:Int) < (P.length:Int))=False:=eq_false Aa;subst hin;have e1:((6000:Int) < ((((List.range P.length).map c).sum:Nat):Int))=False:=eq_false Aa;have e2:((64:Int) < (P.length:Int))=False:=eq_false Aa;have e3:((P.length:Int)=0)=False:=eq_false Aa;simp only [d0,e1,e2,e3,LZ,seval];exact Ay.mkZ hx [] ⟨rfl,rfl,rfl⟩
 have d0:((j:Int) < (P.length:Int))=True:=eq_true Aa;have hlt:j < P.length:=Aa;have hf:=Ft hlt;have hb:=h.body j hlt;have hpr:=h.par j hlt;have hsm:((List.range j).map c).sum + c j≤6000:=by
  have h1:=FZ c (j + 1) (P.length - (j + 1));rw [show j + 1 + (P.length - (j + 1))=P.length by omega,CO] at h1;omega
 have hB:=WO ok P j hlt Aa 16 _ _ hb Aa ((List.range j).map c).sum Aa;have w2:IntKind.i64.wrap ((j:Int) + 1)=((j + 1:Nat):Int):=B7;have f1:(Db P j < 0)=False:=eq_false Aa;have f2:(Bi P j < Db P j)=False:=eq_false Aa;have f3:((24:Int) < Bi P j)=False:=eq_false Aa;have f4:((j:Int)=0)=True→(Db P j=0)=True:=fun h0=>by
  have:j=0:=by have:=of_eq_true h0;omega
  subst this;exact eq_true h.par0
 simp only [hck] at hB;by_cases hj0:j=0
 ·have g1:((j:Int)=0)=True:=eq_true Aa;simp only [d0,hf,f1,f2,f3,g1,f4 g1,A8,A7,A6,LZ,seval];repeat refine sd ?_
  have zz:=BK hsl @B9;refine Hx [0] [0] (hB) ?_;simp only [hrl,w2,LZ,seval];refine ⟨j + 1,by omega,by omega,?_⟩;rw [CO,Nat.add_sub_cancel];refine Av.fr [0] [] hx Bg Ab ?_ ?_
  ·simp only [LY,seval,hsl]
  ·simp only [hck,LY,seval,hsl]
 ·have g1:((j:Int)=0)=False:=eq_false Aa;simp only [d0,hf,f1,f2,f3,g1,A8,A7,A6,LZ,seval];repeat refine sd ?_
  have zz:=BK hsl @B9;refine Hx [0] [0] (hB) ?_;simp only [hrl,w2,LZ,seval];refine ⟨j + 1,by omega,by omega,?_⟩;rw [CO,Nat.add_sub_cancel];refine Av.fr [0] [] hx Bg Ab ?_ ?_
  ·simp only [LY,seval,hsl]
  ·simp only [hck,LY,seval,hsl]
theorem Py (H:Hp) (m z:List Nat) (l:List Fu):B5 H m z (FC l) (FC l)=True:=by
 cases l with
 | nil=>exact eq_true rfl
 | cons x r=>exact Ak H m z (x :: r)
end Mv
