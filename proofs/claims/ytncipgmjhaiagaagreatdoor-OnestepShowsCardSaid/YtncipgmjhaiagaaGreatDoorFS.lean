/- A part. -/
import Derived.Test.YtncipgmjhaiagaaGreatDoorFR
set_option linter.all false
set_option maxRecDepth 20000
set_option maxHeartbeats 64000000
namespace Mv
open Go
theorem Aqr (op:Nat) (h:Hd) (d a:Nat) (to:BitVec 64) (hs:(op=30∧¬ h.g a=0#64) ∨ (op=31∧h.g a=0#64)):Vx op h d a to=⟨h.g,h.pc + 1#64,h.hl,h.xt⟩:=if_pos hs
theorem Aqt (op:Nat) (h:Hd) (d a:Nat) (to nx:BitVec 64) (hs:¬ ((op=30∧¬ h.g a=0#64) ∨ (op=31∧h.g a=0#64))) (hn:(if op=33 then h.g a else to)=nx) (hw:8192#64≤nx):Vx op h d a to=h.stop Ap:=by
 rw [Vx,if_neg hs,hn,if_pos hw]
theorem Aqj (op:Nat) (h:Hd) (d a:Nat) (to nx:BitVec 64) (hs:¬ ((op=30∧¬ h.g a=0#64) ∨ (op=31∧h.g a=0#64))) (hn:(if op=33 then h.g a else to)=nx) (hw:¬ 8192#64≤nx):Vx op h d a to=⟨if op=32 then E9 h.g d (h.pc + 1#64) else h.g,nx,h.hl,h.xt⟩:=by
 rw [Vx,if_neg hs,hn,if_neg hw]
theorem Aq4 {M:Seat} (ok:OkRM M) (pres:List (Dg × Pr)) (m:Mc) (h:¬ Aaj m) :
 Af M 240 [.ptr 0 [],.ptr 3 []] (Fx m) 4 (Q3 (.tup .fnil) (Fx (Tr pres m)) 4):=by
 obtain ⟨f,g,pc,hl,xt⟩:=m
 cases hl with
 | true =>
   rw [Tr,if_pos rfl]
   exact ML ok f g pc xt
 | false =>
   by_cases hpc:8192#64≤pc
   ·rw [Tr,if_neg Bu,if_pos hpc]
    exact Ug ok f g pc xt hpc
   rw [Aok pres f g pc xt hpc]
   have key:∀ q:Hd × Option Int × Ps,Of (Fc pres) ⟨g,pc,false,xt⟩ (f pc.toNat) ⟨f,[Bf f pc],Pr.zero⟩=q→Af M 240 [.ptr 0 [],.ptr 3 []] (Cc f g pc false xt) 4 (Q3 (.tup .fnil) (Fx (An8 ⟨f,g,pc,false,xt⟩ q)) 4) →
    Af M 240 [.ptr 0 [],.ptr 3 []] (Cc f g pc false xt) 4 (Q3 (.tup .fnil) (Fx (An8 ⟨f,g,pc,false,xt⟩ (Of (Fc pres) ⟨g,pc,false,xt⟩ (f pc.toNat) ⟨f,[Bf f pc],Pr.zero⟩))) 4):=fun q hq hr=>by rw [hq];exact hr
   unfold Aaj at h
   dsimp only at h
   by_cases q0:isI (f pc.toNat)=false
   ·refine key _ (by rw [Of,if_pos q0]) ?_
    exact Ut ok f g pc xt hpc _ rfl (by
     cases hi:Co (f pc.toNat) with
     | false=>rfl
     | true=>simp only [Co,decide_eq_true_eq] at hi;rw [(Nm _).2 hi] at q0;cases q0)
   obtain ⟨h35,h2⟩:=(Nm _).1 (by simpa using q0)
   have hi:Co (f pc.toNat)=true:=by simp only [Co,decide_eq_true_eq];exact ⟨h35,h2⟩
   by_cases q1:AT (f pc.toNat)=0
   ·refine key _ (by rw [Of,if_neg q0,if_pos q1]) ?_
    exact RE ok f g pc xt hpc _ rfl q1 hi
   by_cases q2:AT (f pc.toNat) < 26
   ·refine key _ (by rw [Of,if_neg q0,if_neg q1,if_pos q2]) ?_
    exact PU ok f g pc xt hpc _ rfl (AT (f pc.toNat)) Aa Aa rfl hi
   by_cases q3:AT (f pc.toNat)=26
   ·refine key _ (by rw [Of,if_neg q0,if_neg q1,if_neg q2,if_pos q3]) ?_
    exact Vt ok f g pc xt hpc _ rfl q3 hi
   by_cases q4:AT (f pc.toNat)=27 ∨ AT (f pc.toNat)=28
   ·by_cases hwh:8192#64≤g (pF (f pc.toNat) 48) + BitVec.ofInt 64 (pN (f pc.toNat))
    ·refine key _ (by rw [Of,if_neg q0,if_neg q1,if_neg q2,if_neg q3,if_pos q4,if_pos hwh]) ?_
     rcases q4 with q4 | q4
     ·exact Jv ok f g pc xt hpc _ rfl q4 hi hwh
     ·exact IE ok f g pc xt hpc _ rfl q4 hi hwh
    ·by_cases q5:AT (f pc.toNat)=27
     ·refine key _ (by rw [Of,if_neg q0,if_neg q1,if_neg q2,if_neg q3,if_pos q4,if_neg hwh,if_pos q5]) ?_
      exact QS ok f g pc xt hpc _ rfl q5 hi hwh
     ·refine key _ (by rw [Of,if_neg q0,if_neg q1,if_neg q2,if_neg q3,if_pos q4,if_neg hwh,if_neg q5]) ?_
      exact Oj ok f g pc xt hpc _ rfl (q4.resolve_left q5) hi hwh
   by_cases q7:AT (f pc.toNat) < 34
   ·obtain ⟨ga,hga⟩:∃ ga,g (pF (f pc.toNat) 48)=ga:=⟨_,rfl⟩
    obtain ⟨to,hto⟩:∃ to,BitVec.ofInt 64 (pN (f pc.toNat))=to:=⟨_,rfl⟩
    have kj:∀ q:Hd,Vx (AT (f pc.toNat)) ⟨g,pc,false,xt⟩ (pF (f pc.toNat) 52) (pF (f pc.toNat) 48) to=q→Of (Fc pres) ⟨g,pc,false,xt⟩ (f pc.toNat) ⟨f,[Bf f pc],Pr.zero⟩=(q,none,⟨f,[Bf f pc],Pr.zero⟩):=fun q hq=>by
     rw [Of,if_neg q0,if_neg q1,if_neg q2,if_neg q3,if_neg q4,if_pos q7,hto,hq]
    by_cases hs:(AT (f pc.toNat)=30∧¬ ga=0#64) ∨ (AT (f pc.toNat)=31∧ga=0#64)
    ·exact key _ (kj _ (Aqr _ _ _ _ _ (by dsimp only;rw [hga];exact hs))) (KK ok f g pc xt hpc _ rfl hi ga hga hs)
    have hs':¬ ((AT (f pc.toNat)=30∧¬ (⟨g,pc,false,xt⟩:Hd).g (pF (f pc.toNat) 48)=0#64) ∨ (AT (f pc.toNat)=31∧(⟨g,pc,false,xt⟩:Hd).g (pF (f pc.toNat) 48)=0#64)):=by dsimp only;rw [hga];exact hs
    by_cases q8:AT (f pc.toNat)=33
    ·have hn:(if AT (f pc.toNat)=33 then (⟨g,pc,false,xt⟩:Hd).g (pF (f pc.toNat) 48) else to)=ga:=by rw [if_pos q8];exact hga
     by_cases hw:8192#64≤ga
     ·exact key _ (kj _ (Aqt _ _ _ _ _ _ hs' hn hw)) (Dr ok f g pc xt hpc _ rfl hi to ga hto hga (.inr (.inr (.inr (.inr ⟨q8,hw⟩)))))
     ·have e:=Aqj _ _ (pF (f pc.toNat) 52) _ _ _ hs' hn hw
      rw [if_neg Aa] at e
      exact key _ (kj _ e) (EH ok f g pc xt hpc _ rfl hi to ga ga hto hga hw (.inr (.inr (.inr ⟨q8,rfl⟩))))
    have hn:(if AT (f pc.toNat)=33 then (⟨g,pc,false,xt⟩:Hd).g (pF (f pc.toNat) 48) else to)=to:=if_neg q8
    by_cases hw:8192#64≤to
    ·refine key _ (kj _ (Aqt _ _ _ _ _ _ hs' hn hw)) (Dr ok f g pc xt hpc _ rfl hi to ga hto hga ?_)
     by_cases p29:AT (f pc.toNat)=29
     ·exact .inl ⟨p29,hw⟩
     by_cases p30:AT (f pc.toNat)=30
     ·exact .inr (.inl ⟨p30,Classical.byContradiction fun hc=>hs (.inl ⟨p30,hc⟩),hw⟩)
     by_cases p31:AT (f pc.toNat)=31
     ·exact .inr (.inr (.inl ⟨p31,fun hc=>hs (.inr ⟨p31,hc⟩),hw⟩))
     exact .inr (.inr (.inr (.inl ⟨by omega,hw⟩)))
    ·have e:=Aqj _ _ (pF (f pc.toNat) 52) _ _ _ hs' hn hw
     by_cases p32:AT (f pc.toNat)=32
     ·rw [if_pos p32] at e
      exact key _ (kj _ e) (TE ok f g pc xt hpc _ rfl hi to hto hw p32)
     rw [if_neg p32] at e
     refine key _ (kj _ e) (EH ok f g pc xt hpc _ rfl hi to ga to hto hga hw ?_)
     by_cases p29:AT (f pc.toNat)=29
     ·exact .inl ⟨p29,rfl⟩
     by_cases p30:AT (f pc.toNat)=30
     ·exact .inr (.inl ⟨p30,Classical.byContradiction fun hc=>hs (.inl ⟨p30,hc⟩),rfl⟩)
     exact .inr (.inr (.inl ⟨by omega,fun hc=>hs (.inr ⟨by omega,hc⟩),rfl⟩))
   by_cases q8:AT (f pc.toNat)=34
   ·have hw:(wi (g (pF (f pc.toNat) 48)) 8#64 && wi (g (pF (f pc.toNat) 44)) 4#64)=false:=by
     cases hb:(wi (g (pF (f pc.toNat) 48)) 8#64 && wi (g (pF (f pc.toNat) 44)) 4#64) with
     | false=>rfl
     | true=>exact absurd ⟨rfl,hpc,h2,.inl ⟨q8,hb⟩⟩ h
    refine key ((⟨g,pc,false,xt⟩:Hd).stop Ap,none,⟨f,[Bf f pc],Pr.zero⟩) ?_ (Nb ok f g pc xt hpc _ rfl q8 hi hw)
    rw [Of,if_neg q0,if_neg q1,if_neg q2,if_neg q3,if_neg q4,if_neg q7,MX,if_pos]
    rw [q8];exact hw
   ·have q8:AT (f pc.toNat)=35:=Aa
    have hw:(wi (g (pF (f pc.toNat) 48)) 4#64 && wi (g (pF (f pc.toNat) 44)) 8#64)=false:=by
     cases hb:(wi (g (pF (f pc.toNat) 48)) 4#64 && wi (g (pF (f pc.toNat) 44)) 8#64) with
     | false=>rfl
     | true=>exact absurd ⟨rfl,hpc,h2,.inr ⟨q8,hb⟩⟩ h
    refine key ((⟨g,pc,false,xt⟩:Hd).stop Ap,none,⟨f,[Bf f pc],Pr.zero⟩) ?_ (Nz ok f g pc xt hpc _ rfl q8 hi hw)
    rw [Of,if_neg q0,if_neg q1,if_neg q2,if_neg q3,if_neg q4,if_neg q7,MX,if_pos]
    rw [q8];exact hw
theorem O1 {M:Seat} (k196:Al M 196 Qz=true) :
 Af M 196 [.nils] [] 0 (Q3 (.ptr 0 []) (Fx ⟨fun _=>0#64,fun _=>0#64,0#64,false,0#64⟩) 3):=by
 refine Ac k196 rfl fun x hx=>?_
 refine es 2000 ?_;(simp only [Qz,Aem,LZ,seval])
 repeat refine sd ?_
 refine Aq.mk hx [64,16,32] [] (.ptr 0 []) (Fx ⟨fun _=>0#64,fun _=>0#64,0#64,false,0#64⟩) 3 Ak (by simp only [Fk,seval]) (by simp only [IT,seval]) ?_ ⟨rfl,rfl,rfl⟩
 simp only [Fx,Cc,Ba,LY,seval]
theorem OB {M:Seat} (k196:Al M 196 Qz=true) (n:Nat) (hn:n≤8192) (u:Nat→BitVec 64) :
 Af M 196 [.lst 1 n (fun j=>W (u j))] [] 0 (Q3 (.ptr 0 []) (Fx ⟨TX n u,fun _=>0#64,0#64,false,0#64⟩) 3):=by
 refine Ac k196 rfl fun x hx=>?_
 have m1:min n 8192=n:=Aa
 have m2:∀ i:Nat,(0≤i)=True:=fun i=>eq_true (Nat.zero_le i)
 refine es 2000 ?_;(simp only [Qz,Aem,m1,m2,LZ,seval])
 refine Aq.mk hx [64,16,32] [] (.ptr 0 []) (Fx ⟨TX n u,fun _=>0#64,0#64,false,0#64⟩) 3 Ak (by simp only [Fk,seval]) (by simp only [IT,seval]) ?_ ⟨rfl,rfl,rfl⟩
 simp only [Fx,Cc,Ba,TX,LY,seval]
 intro j hj
 by_cases h:j < n
 ·simp only [h,true_and,if_true,LY,seval]
 ·simp only [h,and_false,if_false,LY,seval]
def Aer (l:List In) (v:V):Prop:=v=Hl l ∨ (v = .nils∧l=[])
def ldM (l:List In):Mc:=⟨TX (min l.length 8192) (fun j=>G7 (l.getD j default)),fun _=>0#64,0#64,false,0#64⟩
noncomputable def ZJ (s:SM):Hp:=if s.n=0 then Nh s else Sh 6 s
def c95:LC:=(sr [A1 8 (.mv (.c .nilp)),
 A1 9 (.mv (.c .nilp)),
 A1 10 (.mv (.c .nilp))]
 (sr [mt 18 2,
  kl 19 73 [(.t 18)],
  mt 17 19,
  A1 20 (.ext (.t 17) 0),
  A1 21 (.ext (.t 17) 1),
  mt 11 20,
  mt 12 21]
 (sr [mt 23 0,
  kl 24 75 [(.t 23)],
  kl 25 74 [(.t 24)],
  mt 22 25,
  A1 26 (.ext (.t 22) 0),
  A1 27 (.ext (.t 22) 1),
  mt 13 26,
  mt 14 27]
 (sr [mt 28 0,
  kl 29 75 [(.t 28)],
  kl 30 196 [(.t 29)],
  mt 15 30]
 (.seq (sr [mt 31 11,
  A1 32 (.eq false true .ptr (.t 31) (.c .nilp)),
  mt 33 32,
  A2 34 33 false (.mv (.t 14)),
  A2 35 33 false (.eq true true (.iface [74]) (.t 34) (.c .nili)),
  A1 36 (.pick (.t 33) (.c (.bool true)) (.t 35)),
  mt 37 36,
  A2 38 37 false (.mv (.t 13)),
  A2 39 37 false (.eq false true .ptr (.t 38) (.c .nilp)),
  A1 40 (.pick (.t 37) (.c (.bool true)) (.t 39))]
 (.cond (.t 40) (sr [mt 41 15,
  A1 8 (.mv (.c .nilp)),
  A1 9 (.mv (.c .nilp)),
  mt 10 41]
 (.ret)) (.skip)))
 (.seq (sr [mt 42 1,
  A1 43 (.len 0 (.t 42)),
  A1 44 (.mm false (.t 43) (cI 16)),
  A1 45 (.mv (cI 0))]
 (.block 0 (.loop (sr [A1 46 (.ari .lss (.t 45) (.t 44))]
 (.seq (.cond (.t 46) (.skip) (.exit 0))
 (.seq (.block 1 (sr [mt 47 45,
  mt 16 47]
 (.regd [⟨0,0,mt 48 13⟩,
  ⟨1,0,mt 49 16⟩,
  ⟨2,0,mt 50 15⟩,
  ⟨3,4,A1 51 (.nilc (.t 50))⟩,
  ⟨4,12,A1 52 (.fadr 1 (.t 51))⟩,
  ⟨5,28,A1 53 (.load false 1 (.t 52))⟩,
  ⟨7,0,mt 55 1⟩,
  ⟨8,0,mt 56 16⟩,
  ⟨9,192,A1 57 (.isl 1 (.t 55) (.t 56))⟩,
  ⟨10,448,A1 58 (.load false 1 (.t 57))⟩,
  ⟨11,0,mt 59 1⟩,
  ⟨12,0,mt 60 16⟩,
  ⟨13,3072,A1 61 (.isl 1 (.t 59) (.t 60))⟩,
  ⟨14,7168,A1 62 (.load false 1 (.t 61))⟩,
  ⟨15,1,A1 63 (.nilc (.t 48))⟩,
  ⟨16,16385,A1 64 (.fadr 8192 (.t 63))⟩,
  ⟨17,65535,A1 65 (.iarr 16 1 (.t 64) (.t 49))⟩,
  ⟨18,131071,A0 (.store 1 (.t 65) (.t 58))⟩,
  ⟨6,0,mt 54 16⟩,
  ⟨19,524287,A1 66 (.isl 1 (.t 53) (.t 54))⟩,
  ⟨20,1048575,A0 (.store 1 (.t 66) (.t 62))⟩])))
 (.reg [A1 67 (.ari .add (.t 45) (cI 1)),
  mt 45 67])))))))
 (.seq (sr [mt 68 3,
  A1 69 (.conv .u64 (.t 68)),
  A1 70 (.ari .rem (.t 69) (cU 60)),
  A1 71 (.conv .i64 (.t 70)),
  A1 72 (.mv (cI 0))]
 (.block 2 (.loop (sr [A1 73 (.ari .lss (.t 72) (.t 71))]
 (.seq (.cond (.t 73) (.skip) (.exit 2))
 (.seq (.block 3 (sr [mt 74 13,
  mt 75 11,
  kl 76 70 [(.t 74),(.t 75)]]
 (.reg [mt 77 15,
  mt 78 12,
  kl 79 240 [(.t 77),(.t 78)]])))
 (.reg [A1 80 (.ari .add (.t 72) (cI 1)),
  mt 72 80])))))))
 (sr [mt 81 13,
  mt 82 11,
  mt 83 15,
  mt 8 81,
  mt 9 82,
  mt 10 83]
 (.ret)))))))))
def f95:LF:=⟨c95,4,0,84,[.tmp 8,.tmp 9,.tmp 10]⟩
def dm (m:Mc):Hp:=[(7,Ba 8 9 m.pc m.hl m.xt),(8,.ar 1 8192 fun j=>W (m.f j)),(9,.ar 1 16 fun j=>W (m.g j))]
def SB:=(aq3 @Qg @dm.eq_1 @Ba.eq_1)
def dN (t:RD):Hp:=dm t.m ++ [(10,.st 4 (.fcons 0 (.sl 11 [] 0 t.l.length 32) (.fcons 1 (.sl 12 [] 0 t.l.length 64) (.fcons 2 .nils (.fcons 3 (.bool t.met) .fnil))))),(11,.ar 32 t.l.length fun i=>dg (rh t.l i)),(12,.ar 64 t.l.length fun i=>At (rp t.l i))]
def dS (t:RD):Hp:=dm t.m ++ [(10,.st 4 (.fcons 0 (.sl 11 [] 0 t.l.length 32) (.fcons 1 (.sl 12 [] 0 t.l.length 64) (.fcons 2 (.sl 13 [] 0 t.n 32) (.fcons 3 (.bool t.met) .fnil))))),(11,.ar 32 t.l.length fun i=>dg (rh t.l i)),(12,.ar 64 t.l.length fun i=>At (rp t.l i)),(13,.ar 32 t.n fun i=>dg (t.q i))]
noncomputable def dH (t:RD):Hp:=if t.n=0 then dN t else dS t
def atL:LC:=(sr [A1 73 (.ari .lss (.t 72) (.t 71))]
 (.seq (.cond (.t 73) (.skip) (.exit 2))
 (.seq (.block 3 (sr [mt 74 13,
  mt 75 11,
  kl 76 70 [(.t 74),(.t 75)]]
 (.reg [mt 77 15,
  mt 78 12,
  kl 79 240 [(.t 77),(.t 78)]])))
 (.reg [A1 80 (.ari .add (.t 72) (cI 1)),
  mt 72 80]))))
def atT:LC:=(sr [mt 81 13,
 mt 82 11,
 mt 83 15,
 mt 8 81,
 mt 9 82,
 mt 10 83]
 (.ret))
noncomputable def atH (s:SM) (m:Mc):Hp:=ZJ s ++ dm m
theorem Apa {M:Seat} (T:Nat→SM) (U:Nat→RD) (n:Nat) (hn:n < 300) (hs:(T 0).n=0) (ht:(U 0).n=0) (hst:∀ i,i < n→S7 M (T i) (T (i + 1))) (htt:∀ i,i < n→TrD M (U i) (U (i + 1))) {x:Ctx} (hx:x.k=0) {A:List V} {H:Hp} {N:Nat}
 (hw:Aj M x A H N (fr 84 [(11,.ptr 0 []),(12,.ptr 10 []),(13,.ptr 5 []),(15,.ptr 7 []),(71,.int .i64 n),(72,.int .i64 (0:Nat))]) (Nh (T 0) ++ dN (U 0)) 14) :
 Gz M x (Aq M x [RVr.tmp 8,RVr.tmp 9,RVr.tmp 10] fun r H' k'=>r=BD (.ptr 5 []) (.ptr 0 []) (.ptr 7 [])∧H'=atH (T n) (U n).m∧k'=14) atL [.blk 2,.code atT] A H N:=by
 have hv:∀ m:Mc,m.v=mach m.f m.g m.pc m.hl m.xt:=fun _=>rfl
 refine Ag (σ:=Nat) (fun i=>i≤n) (fun i=>fr 84 [(11,.ptr 0 []),(12,.ptr 10 []),(13,.ptr 5 []),(15,.ptr 7 []),(71,.int .i64 n),(72,.int .i64 i)]) (fun i=>ZJ (T i) ++ dH (U i)) (fun _=>14) (fun i=>n - i) 0 Aa ?_ ?_
 ·rw [show ZJ (T 0)=Nh (T 0) from if_pos hs,show dH (U 0)=dN (U 0) from if_pos ht]
  exact hw
 ·intro i hi
  have w0:IntKind.i64.wrap ((i:Int) + 1)=((i + 1:Nat):Int):=A9
  by_cases hin:i=n
  ·subst hin
   have d0:((i:Int) < (i:Int))=False:=eq_false Aa
   rw [atH]
   by_cases hz:(T i).n=0 <;> by_cases hy:(U i).n=0
   all_goals
    simp only [ZJ,dH,hz,hy,CD]
    refine es 2000 ?_
    (simp only [atL,atT,d0,Qg,hv,dN,dS,dm,Fj,seval])
    refine Aq.mk hx [0,1,2,3,4,5,6,7,8,9,10,11,12,13] [] (BD (.ptr 5 []) (.ptr 0 []) (.ptr 7 [])) _ 14 Ak (by simp only [Fk,BD,IY,seval]) (by simp only [IT,BD,IY,seval]) ?_ ⟨rfl,rfl,rfl⟩
    simp only [SB,hv,Ik,dN,dS,seval]
  ·have d0:((i:Int) < (n:Int))=True:=eq_true Aa
   refine es 2000 ?_
   have hi1:i + 1≤n:=Aa
   have hst:=hst i hi1
   have htt:=htt i hi1
   generalize hσ':T (i + 1) = σ' at *
   generalize hσ:T i = σ at *
   generalize hτ':U (i + 1) = τ' at *
   generalize hτ:U i = τ at *
   by_cases hz:σ.n=0 <;> by_cases hy:τ.n=0
   all_goals
    first | rw [show ZJ σ=Nh σ from if_pos hz] | rw [show ZJ σ=Sh 6 σ from if_neg hz]
    first | rw [show dH τ=dN τ from if_pos hy] | rw [show dH τ=dS τ from if_neg hy]
    (simp only [atL,d0,Qg,hv,dN,dS,dm,Fj,Vl,seval])
    rcases hst.1 with ⟨h,hw⟩ | ⟨h0,h1',h6⟩ | ⟨h0,h1',h62⟩ | ⟨h0,h1',h6⟩ | ⟨h0,h1',h62⟩
    all_goals try (exact absurd h0 Aa)
    all_goals first
     | (have w1 : σ'.w = σ.w := by rw [hw]
        have w2:σ'.l = σ.l:=by rw [hw]
        have w3:σ'.n = σ.n:=by rw [hw]
        have w4:σ'.q = σ.q:=by rw [hw]
        have hm:Af M 70 [.ptr 0 [],.ptr 1 []] [(0,σ.m.v)] 2 _:=h
        rw [hv σ.m] at hm
        clear hw
        (have zz:=aq2 @mach.eq_1 hv;refine JO [5,0] [5] (hm) ?_))
     | (have w1 := hv
        have w2:=hv
        have w3:=hv
        have w4:=hv
        first | have hm:=h6 | have hm:=h62
        simp only [Nh,Sh,hv σ.m] at hm
        first
        | (have hm : Af M 70 [.ptr 5 [], .ptr 0 []] _ 6 _ := hm
           (have zz:=aq3 @Qg hv GM;refine Fl [0,1,2,3,4,5] (hm) ?_))
        | (have hm : Af M 70 [.ptr 5 [], .ptr 0 []] _ 7 _ := hm
           (have zz:=aq3 @Qg hv GM;refine Fl [0,1,2,3,4,5,6] (hm) ?_)))
    all_goals
     (simp only [Qg,hv,AR,BA,seval])
     rcases htt with ⟨hd,u1,u2,u3,u4⟩ | ⟨k0,h1'',hd0⟩ | ⟨k0,h1'',hd1⟩ | ⟨k0,h1'',hd2⟩ | ⟨k0,h1'',hd0⟩ | ⟨k0,h1'',hd1⟩ | ⟨k0,h1'',hd2⟩
     all_goals try (exact absurd k0 Aa)
     all_goals first
      | (have hd : Af M _ _ _ 4 _ := hd
         rw [Fx,Cc] at hd
         (have zz:=aq3 @Fx.eq_1 @Cc.eq_1 @Ba.eq_1;refine JO [7,8,9,10] [7,8,9] (hd) ?_))
      | (have u1 := hv
         have u2:=hv
         have u3:=hv
         have u4:=hv
         first | have hd:=hd0 | have hd:=hd1 | have hd:=hd2
         first
         | (have hd : Af M _ _ _ 6 _ := hd
            (have zz:=Apk @rN.eq_1 @rNG.eq_1 @rS.eq_1 @rSG.eq_1 @rST.eq_1 @Fx.eq_1 @Cc.eq_1 @YI.eq_1 @NL.eq_1 @Qj.eq_1 @NW.eq_1 @Jn.eq_1 UW @CO.eq_1 Vl;refine Fl [7,8,9,10,11,12] (hd) ?_))
         | (have hd : Af M _ _ _ 7 _ := hd
            (have zz:=Apk @rN.eq_1 @rNG.eq_1 @rS.eq_1 @rSG.eq_1 @rST.eq_1 @Fx.eq_1 @Cc.eq_1 @YI.eq_1 @NL.eq_1 @Qj.eq_1 @NW.eq_1 @Jn.eq_1 UW @CO.eq_1 Vl;refine Fl [7,8,9,10,11,12,13] (hd) ?_)))
     all_goals
      (simp only [rN,rNG,rS,rSG,rST,Fx,Cc,YI,NL,Qj,NW,Jn,Qm,CO,Fq,Vl,LM,w0,seval])
      refine ⟨i + 1,hi1,by omega,?_⟩
      rw [hσ',hτ']
      first | rw [show ZJ σ'=Nh σ' from if_pos Aa] | rw [show ZJ σ'=Sh 6 σ' from if_neg Aa]
      first | rw [show dH τ'=dN τ' from if_pos Aa] | rw [show dH τ'=dS τ' from if_neg Aa]
      first
      | (clear h62
         first
         | (clear hd1;refine Aj.fr [0,1,2,3,4,5,62,7,8,9,10,110,111,13] [] hx Ax Ak ?_ ?_)
         | (clear hd2;refine Aj.fr [0,1,2,3,4,5,62,7,8,9,10,11,12,110] [] hx Ax Ak ?_ ?_)
         | refine Aj.fr [0,1,2,3,4,5,62,7,8,9,10,11,12,13] [] hx Ax Ak ?_ ?_)
      | (clear hd1;refine Aj.fr [0,1,2,3,4,5,6,7,8,9,10,110,111,13] [] hx Ax Ak ?_ ?_)
      | (clear hd2;refine Aj.fr [0,1,2,3,4,5,6,7,8,9,10,11,12,110] [] hx Ax Ak ?_ ?_)
      | refine Aj.fr [0,1,2,3,4,5,6,7,8,9,10,11,12,13] [] hx Ax Ak ?_ ?_
      ·simp only [LY,seval]
      ·simp only [w1,w2,w3,w4,u1,u2,u3,u4,SB,hv,Ik,dN,dS,At,seval]
def Ya (n:Int):Nat:=(BitVec.ofInt 64 n % 60#64).toNat
theorem RL (n:Int):Ya n < 60:=by rw [Ya,BitVec.toNat_umod];exact Nat.mod_lt _ Ak
theorem Zo (n:Int):(BitVec.ofInt 64 n % 60#64).toInt=(Ya n:Int):=by
 have:=RL n
 rw [BitVec.toInt_eq_toNat_cond,if_pos (by unfold Ya at this;omega)];rfl
def gI (rs:List (BitVec 64)) (i j:Nat):BitVec 64:=if j < i then rs.getD j 0 else 0#64
def Ta (w:WS) (f:Nat→BitVec 64) (rs:List (BitVec 64)) (i:Nat):SM:=⟨w,[],0,fun _=>Dg.zero,⟨f,gI rs i,0#64,false,0#64⟩⟩
def SE (rl:List (Dg × Pr)) (met:Bool) (f:Nat→BitVec 64) (rs:List (BitVec 64)) (i:Nat):RD:=⟨rl,met,0,fun _=>Dg.zero,⟨f,gI rs i,0#64,false,0#64⟩⟩
def atG:LC:=(sr [A1 46 (.ari .lss (.t 45) (.t 44))]
 (.seq (.cond (.t 46) (.skip) (.exit 0))
 (.seq (.block 1 (sr [mt 47 45,
  mt 16 47]
 (.regd [⟨0,0,mt 48 13⟩,
  ⟨1,0,mt 49 16⟩,
  ⟨2,0,mt 50 15⟩,
  ⟨3,4,A1 51 (.nilc (.t 50))⟩,
  ⟨4,12,A1 52 (.fadr 1 (.t 51))⟩,
  ⟨5,28,A1 53 (.load false 1 (.t 52))⟩,
  ⟨7,0,mt 55 1⟩,
  ⟨8,0,mt 56 16⟩,
  ⟨9,192,A1 57 (.isl 1 (.t 55) (.t 56))⟩,
  ⟨10,448,A1 58 (.load false 1 (.t 57))⟩,
  ⟨11,0,mt 59 1⟩,
  ⟨12,0,mt 60 16⟩,
  ⟨13,3072,A1 61 (.isl 1 (.t 59) (.t 60))⟩,
  ⟨14,7168,A1 62 (.load false 1 (.t 61))⟩,
  ⟨15,1,A1 63 (.nilc (.t 48))⟩,
  ⟨16,16385,A1 64 (.fadr 8192 (.t 63))⟩,
  ⟨17,65535,A1 65 (.iarr 16 1 (.t 64) (.t 49))⟩,
  ⟨18,131071,A0 (.store 1 (.t 65) (.t 58))⟩,
  ⟨6,0,mt 54 16⟩,
  ⟨19,524287,A1 66 (.isl 1 (.t 53) (.t 54))⟩,
  ⟨20,1048575,A0 (.store 1 (.t 66) (.t 62))⟩])))
 (.reg [A1 67 (.ari .add (.t 45) (cI 1)),
  mt 45 67]))))
def atR:LC:=(.seq (sr [mt 68 3,
 A1 69 (.conv .u64 (.t 68)),
 A1 70 (.ari .rem (.t 69) (cU 60)),
 A1 71 (.conv .i64 (.t 70)),
 A1 72 (.mv (cI 0))]
 (.block 2 (.loop (sr [A1 73 (.ari .lss (.t 72) (.t 71))]
 (.seq (.cond (.t 73) (.skip) (.exit 2))
 (.seq (.block 3 (sr [mt 74 13,
  mt 75 11,
  kl 76 70 [(.t 74),(.t 75)]]
 (.reg [mt 77 15,
  mt 78 12,
  kl 79 240 [(.t 77),(.t 78)]])))
 (.reg [A1 80 (.ari .add (.t 72) (cI 1)),
  mt 72 80])))))))
 (sr [mt 81 13,
  mt 82 11,
  mt 83 15,
  mt 8 81,
  mt 9 82,
  mt 10 83]
 (.ret)))
noncomputable def Ao1 (R:List (Dg × Pr) × Bool) (p:Pr):List (Dg × Pr) × Bool:=if Gq R.1 (CE p)=R.1.length then (R.1 ++ [(CE p,p)],R.2) else (P4 R.1 p,Xk R.1 R.2 p)
noncomputable def Aoe (R:List (Dg × Pr) × Bool) (pf:Nat→Pr):Nat→List (Dg × Pr) × Bool
 | 0=>R
 | n + 1=>Ao1 (Aoe R pf n) (pf n)
def Aog (w:WS) (pf:Nat→Pr):Nat→WS
 | 0=>w
 | n + 1=>(Aog w pf n).add (pf n)
theorem Ao5 (R:List (Dg × Pr) × Bool) (p:Pr):(Ao1 R p).1.length≤R.1.length + 1:=by
 rw [Ao1];split
 ·simp only [Lc4];omega
 ·simp only [P4,List.length_set];omega
theorem Aol (R:List (Dg × Pr) × Bool) (pf:Nat→Pr):∀ n,(Aoe R pf n).1.length≤R.1.length + n
 | 0=>Nat.le_refl _
 | n + 1 => by
   have h:=Aol R pf n
   have h2:=Ao5 (Aoe R pf n) (pf n)
   rw [Aoe];omega
theorem Aoo {M:Seat} (okA:OkM M) (okS:OkS M) (okB:OkB M) (ok:OkR M) (n:Nat) (hn:n < 9223372036854775808) (pf:Nat→Pr) :
 Af M 73 [.lst 64 n fun i=>At (pf i)] [] 0 (Q3 (Ao (.ptr 0 []) (.ptr 5 [])) (AF (Aog (FK 16) pf (min n 50)) .nils [] ++ RO (Aoe (BL 16) pf (min n 50)).1 (Aoe (BL 16) pf (min n 50)).2) 8):=by
 have hw0:Aog (FK 16) pf 0=FK 16:=rfl
 have hr0:Aoe (BL 16) pf 0=BL 16:=rfl
 have hws:∀ i,Aog (FK 16) pf (i + 1)=(Aog (FK 16) pf i).add (pf i):=fun _=>rfl
 have hrs:∀ i,Aoe (BL 16) pf (i + 1)=Ao1 (Aoe (BL 16) pf i) (pf i):=fun _=>rfl
 have hrl:∀ i,(Aoe (BL 16) pf i).1.length≤16 + i:=fun i=>by have:=Aol (BL 16) pf i;have:=Ku 16;omega
 have hN:=PC okA okS
 have hR:=Um okB ok
 generalize Aog (FK 16) pf=T at *
 generalize Aoe (BL 16) pf=U at *
 generalize FK 16=w at *
 generalize BL 16=R at *
 subst hw0 hr0
 refine Ac ok.k73 rfl fun x hx=>?_
 refine es 2000 ?_;(simp only [f73,c73,LZ,seval])
 have zz:=aq4 @AF.eq_1 Nw @C6 @BV;refine El (hN) ?_
 (simp only [AF,Nw,AR,BA,seval])
 have zz:=aq3 @GT.eq_1 Ft @C6;refine El (hR) ?_
 (simp only [AF,Nw,AR,GT,Ft,BA,seval])
 refine Ag (σ:=Nat) (fun i=>i≤min n 50) (fun i=>fr 31 [(4,.ptr 0 []),(5,.ptr 5 []),(13,.lst 64 n fun i=>At (pf i)),(14,.int .i64 n),(15,.int .i64 i)]) (fun i=>AF (T i) .nils [] ++ RO (U i).1 (U i).2) (fun _=>8) (fun i=>min n 50 - i) 0 Aa ?_ ?_
 ·refine Aj.fr [32,33,34,35,36,48,49,50] [] hx Ax Ak ?_ ?_
  ·simp only [CF,seval]
  ·simp only [G0,RO,BJ,Ik,seval]
 ·intro i hi
  have w0:IntKind.i64.wrap ((i:Int) + 1)=((i + 1:Nat):Int):=A9
  refine es 2000 ?_
  by_cases hin:i=n
  ·have d0:((i:Int) < (n:Int))=False:=eq_false Aa
   have e:min n 50=i:=Aa
   rw [e]
   (simp only [d0,G0,RO,Ft,LZ,seval])
   refine ID hx [0,1,2,3,4,5,6,7] (Ao (.ptr 0 []) (.ptr 5 [])) (AF (T i) .nils [] ++ RO (U i).1 (U i).2) 8 ?_
   all_goals simp only [G0,RO,BJ,Ik,Ao,IY,LM,seval]
  have d0:((i:Int) < (n:Int))=True:=eq_true Aa
  by_cases h50:i=50
  ·have d1:((50:Int)≤(i:Int))=True:=eq_true Aa
   have e:min n 50=i:=Aa
   rw [e]
   (simp only [d0,d1,G0,RO,Ft,BA,seval])
   repeat refine sd ?_
   refine ID hx [0,1,2,3,4,5,6,7] (Ao (.ptr 0 []) (.ptr 5 [])) (AF (T i) .nils [] ++ RO (U i).1 (U i).2) 8 ?_
   all_goals simp only [G0,RO,BJ,Ik,Ao,IY,LM,seval]
  have d1:((50:Int)≤(i:Int))=False:=eq_false Aa
  have hl:=hrl i
  have hA0:=Mx okA okS (T i) (pf i)
  have hTs:=hws i
  have hUs:=hrs i
  generalize hT1:T (i + 1)=T1 at *
  generalize hU1:U (i + 1)=U1 at *
  generalize T i=T0 at *
  generalize U i=U0 at *
  obtain ⟨l,met⟩:=U0
  dsimp only at hl
  by_cases hk:Gq l (CE (pf i))=l.length
  ·have hA:=JW okB ok (pf i) met l Aa hk
   rw [Ao1,if_pos hk] at hUs
   (simp only [d0,d1,AF,RO,BA,Vl,seval])
   repeat refine sd ?_
   have zz:=aq3 @C6 @Fo.eq_1 Nw;refine JO [0,1,2,3,4] [0,1,2,3] (hA0) ?_
   (simp only [Gw,Fo,AR,seval])
   have zz:=aq4 Ft @GT.eq_1 @RX.eq_1 @C6;refine Fl [5,6,7] (hA) ?_
   (simp only [Nw,Ft,RX,BA,w0,seval])
   refine ⟨i + 1,by omega,by omega,?_⟩
   rw [hT1,hU1,hTs,hUs]
   refine Aj.fr [0,1,2,3,4,5,232,233] [] hx Ax Ak ?_ ?_
   ·simp only [CF,seval]
   ·simp only [G0,RO,BJ,Ik,seval]
  ·have hA:=Kr okB ok (pf i) met l Aa hk
   rw [Ao1,if_neg hk] at hUs
   (simp only [d0,d1,AF,RO,BA,Vl,seval])
   repeat refine sd ?_
   have zz:=aq3 @C6 @Fo.eq_1 Nw;refine JO [0,1,2,3,4] [0,1,2,3] (hA0) ?_
   (simp only [Gw,Fo,AR,seval])
   have zz:=aq3 Ft @GT.eq_1 @C6;refine Fl [5,6,7] (hA) ?_
   (simp only [Nw,Ft,GT,BA,w0,seval])
   refine ⟨i + 1,by omega,by omega,?_⟩
   rw [hT1,hU1,hTs,hUs]
   refine Aj.fr [0,1,2,3,4,5,6,7] [] hx Ax Ak ?_ ?_
   ·simp only [CF,seval]
   ·simp only [G0,RO,BJ,Ik,seval]
theorem Aqi {a b:BitVec 64} (h:W a=W b):a=b:=by
 unfold W at h
 injection h with _ h
 exact BitVec.eq_of_toNat_eq Aa
theorem Arf {m m':Mc} (h:m.v=m'.v):m=m':=by
 obtain ⟨f,g,pc,hl,xt⟩:=m
 obtain ⟨f',g',pc',hl',xt'⟩:=m'
 simp only [Mc.v,mach] at h
 simp only [V.st.injEq,V.fcons.injEq,V.ar.injEq,V.bool.injEq,Ld] at h
 obtain ⟨h1,h2,h3,h4,h5⟩:=h
 have e1:f=f':=funext fun j=>Aqi (congrFun h1 j)
 have e2:g=g':=funext fun j=>Aqi (congrFun h2 j)
 rw [e1,e2,Aqi h3,h4,Aqi h5]
theorem Aqh (p:Pr):CE p=B9 p.at:=by
 rw [CE,B9,zst];rfl
def Ap3 (l pres:List (Dg × Pr)):Prop:=∀ D,(Gq l D=l.length∧Dv D pres=none) ∨ (¬ Gq l D=l.length∧Dv D pres=some (rp l (Gq l D)))
theorem Aqm (l l':List (Dg × Pr)) (hl:l.length=l'.length) (h:∀ i,rh l i=rh l' i) (D:Dg):Gq l D=Gq l' D:=by
 have a1:=Dy l D
 have a2:=Dy l' D
 rcases Nat.lt_trichotomy (Gq l D) (Gq l' D) with h1 | h1 | h1
 ·rcases F1 l D with h2 | h2
  ·omega
  ·exact absurd ((h _).symm.trans h2) (Ip l' D _ h1)
 ·exact h1
 ·rcases F1 l' D with h2 | h2
  ·omega
  ·exact absurd ((h _).trans h2) (Ip l D _ h1)
theorem Arc (l:List (Dg × Pr)) (d D:Dg) (p:Pr):Gq (l ++ [(d,p)]) D=if Gq l D=l.length then (if d=D then l.length else l.length + 1) else Gq l D:=by
 have a1:=Dy l D
 unfold Gq at *
 rw [List.findIdx_append]
 by_cases h:l.findIdx (fun x=>decide (x.1=D))=l.length
 ·rw [if_neg Aa,if_pos h]
  by_cases e:d=D
  ·rw [if_pos e];simp [List.findIdx_cons,e]
  ·rw [if_neg e];simp [List.findIdx_cons,e];omega
 ·rw [if_pos Aa,if_neg h]
theorem Ap2 (R:List (Dg × Pr) × Bool) (pres:List (Dg × Pr)) (p:Pr) (h:Ap3 R.1 pres):Ap3 (Ao1 R p).1 (CG (B9 p.at) p pres):=by
 intro D
 rw [← Aqh]
 unfold Ao1
 by_cases hk:Gq R.1 (CE p)=R.1.length
 ·rw [if_pos hk]
  dsimp only
  have hL:(R.1 ++ [(CE p,p)]).length=R.1.length + 1:=Bu
  rw [Arc,hL]
  by_cases e:CE p=D
  ·subst e
   rw [if_pos hk,if_pos rfl]
   refine .inr ⟨by omega,?_⟩
   rw [Om,VH _ _ _ _ Aa,if_neg Aa]
  ·rw [if_neg e,Ja _ _ (fun h=>e h.symm)]
   rcases h D with ⟨h1,h2⟩ | ⟨h1,h2⟩
   ·exact .inl ⟨if_pos h1,h2⟩
   ·rw [if_neg h1]
    have:=Dy R.1 D
    refine .inr ⟨by omega,?_⟩
    rw [h2,VH _ _ _ _ Aa,if_pos Aa]
 ·rw [if_neg hk]
  dsimp only
  have hh:rh R.1 (Gq R.1 (CE p))=CE p:=(F1 R.1 (CE p)).resolve_left hk
  have hL:(P4 R.1 p).length=R.1.length:=Pb _ _
  have hx:Gq (P4 R.1 p) D=Gq R.1 D:=Aqm _ _ hL (fun i=>Na _ _ _ _ hh i) D
  rw [hL,hx]
  by_cases e:D=CE p
  ·subst e
   refine .inr ⟨hk,?_⟩
   have:=Dy R.1 (CE p)
   rw [Om,P4,Ng _ _ _ _ _ Aa,if_pos rfl]
  ·rw [Ja _ _ e]
   rcases h D with ⟨h1,h2⟩ | ⟨h1,h2⟩
   ·exact .inl ⟨h1,h2⟩
   ·refine .inr ⟨h1,?_⟩
    have:=Dy R.1 D
    have hD:rh R.1 (Gq R.1 D)=D:=(F1 R.1 D).resolve_left h1
    rw [h2,P4,Ng _ _ _ _ _ Aa,if_neg (fun hc=>e (by rw [← hD,hc,hh]))]
theorem Ap4 (w:WS) (p:Pr):(w.add p).pres=CG (B9 p.at) p w.pres:=by rw [WS.add,Xv]
theorem Aqc:∀ n,Ap3 (BL n).1 (FK n).pres
 | 0=>fun D=>.inl ⟨rfl,rfl⟩
 | n + 1 => by
   have h:BL (n + 1)=Ao1 (BL n) (CM (Am n) (Am n)):=rfl
   rw [h,FK,Ap4]
   exact Ap2 _ _ _ (Aqc n)
theorem Ap7 (R:List (Dg × Pr) × Bool) (w:WS) (h:Ap3 R.1 w.pres) (pf:Nat→Pr):∀ n,Ap3 (Aoe R pf n).1 (Aog w pf n).pres
 | 0=>h
 | n + 1 => by
   rw [Aoe,Aog,Ap4]
   exact Ap2 _ _ _ (Ap7 R w h pf n)
end Mv
