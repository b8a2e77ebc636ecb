/- A part. -/
import Derived.Test.YtlfkjfonpacelaaGreatDoorHR
set_option linter.all false
set_option maxRecDepth 20000
set_option maxHeartbeats 8000000
namespace Mv
open Go
def YB (n:Nat) (ps:Nat→Pt) (P:Pt) (d:Int) (w:WS):Hp:=[(0,Av (.sl 6 [] 0 (n + 1) 3) d (.map 3) (.map 1)),(4,Aw 5 w.a w.b w.met),(5,Bv AF Pr.zero w.ever),(6,.ar 3 (n + 1) fun j=>Cm 4 (if j < n then ps j else P))]
theorem N3 {H:Hp} {m z:List Nat} {K K' mi si pi qi:Nat} {P:Pt} {akx:V} (hK:m[K]?=some K') (h1:Lw H z mi=true) (h2:hget H mi=mach P.m.f P.m.g P.m.pc P.m.hl P.m.xt) (h3:Lw H z si=true)
 (h4:hget H si = .st 4 (.fcons 0 (.map pi) (.fcons 1 (.ptr K' []) (.fcons 2 (.map qi) (.fcons 3 akx .fnil))))) (h5:z.contains pi=true) (h6:Af H pi=true) (h7:hget H pi=Bv AF Pr.zero P.p) (h8:z.contains qi=true) (h9:Af H qi=true) (h10:hget H qi=Bv V.bool false P.sl)
 (h11:At H m z (.lst 32 P.n fun i=>dg (P.q i)) akx):At H m z (Cm K P) (.st 3 (.fcons 0 (W P.a) (.fcons 1 (.ptr mi []) (.fcons 2 (.ptr si []) .fnil)))):=by
 simp only [Cm,At]
 refine ⟨by first | trivial | rfl,by first | trivial | rfl,by simp [W,At],by first | trivial | rfl,⟨h1,?_,?_⟩,by first | trivial | rfl,⟨h3,?_,?_⟩,by first | trivial | rfl⟩
 ·trivial
 ·rw [h2];exact FC _ _ _ _ _ _ _ _
 ·trivial
 ·rw [h4]
  show At H m z (FK P.p K P.sl P.n P.q) _
  simp only [FK,At]
  refine ⟨rfl,rfl,?_,rfl,⟨hK,rfl⟩,rfl,?_,rfl,h11,rfl⟩
  ·exact Tg H m z pi AF (fun _=>(Er _ _ _ _ _).mpr rfl) Pr.zero P.p h5 h6 h7
  ·exact Tg H m z qi V.bool (fun _=>rfl) false P.sl h8 h9 h10
theorem Un {M:Seat} (ok:OkRc M) (n:Nat) (hn:0 < n) (hn2:n < 32) (ps:Nat→Pt) (d:Int) (w:WS) (s:BitVec 64) (h0:(ps 0).a≤s) (hs:s.toNat < 1073741824) (hne:¬ (ps (bi ps s n)).a=s) (hnl:(ps (bi ps s n)).m.hl=false) (hp:C3 (ps (bi ps s n)).p) :
 ∃ (P:Pt) (w':WS) (k:Nat),k≤(s - (ps (bi ps s n)).a).toNat∧P.a=(ps (bi ps s n)).a + BitVec.ofNat 64 k∧(P.m.hl=true ∨ k=(s - (ps (bi ps s n)).a).toNat)∧(P.m,P.p)=xs (ps (bi ps s n)).m (ps (bi ps s n)).p k∧C3 P.p ∧
  Ae M 275 [.ptr 0 [],W s] (tH n ps d w) 6 (Q3 (Cm 4 P) (YB n ps P d w') 7):=by
 have hle:=Xt ps s h0 n
 have hT:(s - (ps (bi ps s n)).a).toInt=((s - (ps (bi ps s n)).a).toNat:Int):=by
  rw [BitVec.toInt_eq_toNat_of_lt]
  rw [BitVec.le_def] at hle
  rw [BitVec.toNat_sub_of_le (by rw [BitVec.le_def];exact hle)]
  omega
 have hN:(s - (ps (bi ps s n)).a).toNat < 549755813888:=by
  rw [BitVec.le_def] at hle
  rw [BitVec.toNat_sub_of_le (by rw [BitVec.le_def];exact hle)]
  omega
 obtain ⟨k,s',k1,k2,k3,k4,hR⟩:=To ok.t ⟨{ w with pres:=(ps (bi ps s n)).p },[],0,fun _=>Dg.zero,(ps (bi ps s n)).m⟩ rfl hp (s - (ps (bi ps s n)).a).toNat hN
 refine ⟨⟨(ps (bi ps s n)).a + BitVec.ofNat 64 k,s'.m,s'.w.pres,s'.l,s'.n,s'.q⟩,s'.w,k,k1,rfl,k2,k3,k4,?_⟩
 have hC:=DR ok.o.p.m (ps (bi ps s n)).m.f (ps (bi ps s n)).m.g (ps (bi ps s n)).m.pc (ps (bi ps s n)).m.hl (ps (bi ps s n)).m.xt
 have hS:=NT ok.p (ps (bi ps s n)).p (ps (bi ps s n)).sl (ps (bi ps s n)).n (ps (bi ps s n)).q
 have hv:∀ m:Mc,m.v=mach m.f m.g m.pc m.hl m.xt:=fun _=>rfl
 generalize hσ:s' = σ at *
 have ek:BitVec.ofInt 64 (k:Int)=BitVec.ofNat 64 k:=BitVec.ofInt_natCast _ _
 refine Ab ok.k275 rfl fun x hx=>?_
 unfold tH
 refine es 2000 ?_;(simp only [O4,Qr,Av,Aw,Mf,Oy,SH,LZ,seval])
 refine ⟨by omega,by omega,?_⟩
 refine An (σ:=Nat) (fun i=>i≤n) (fun i=>fr 95 [(0,.ptr 0 []),(1,W s),(4,.ptr 6 []),(5,.ptr 7 []),(20,.sl 2 [] 0 n 3),(21,.int .i64 n),(22,.int .i64 i)])
  (fun i=>[(0,Av (.sl 2 [] 0 n 3) d (.map 3) (.map 1)),(2,.ar 3 n fun j=>Cm 4 (ps j)),(4,Aw 5 w.a w.b w.met),(5,Bv AF Pr.zero w.ever),(6,.st 3 (.fcons 0 (W 0#64) (.fcons 1 .nilp (.fcons 2 .nilp .fnil)))),(7,Cm 4 (ps (bi ps s i)))]) (fun _=>8) (fun i=>n - i) 0 Aa ?_ ?_
 ·refine Ao.fr [0,1,2,3,4,5,6,118] [] hx AX Am ?_ ?_
  ·simp only [Int.natCast_zero,LY,seval]
  ·simp only [Av,Aw,CB,bi,seval]
   exact ⟨fun j _=>Dy _ _ _ 4 4 rfl _,Dy _ _ _ 4 4 rfl _⟩
 ·intro i hi
  refine es 2000 ?_
  by_cases hin:i=n
  ·subst hin
   have d0:((i:Int) < (i:Int))=False:=eq_false Aa
   generalize bi ps s i=b at *
   rw [hnl] at hC
   have hb:Cm 4 (ps b) = .st 3 (.fcons 0 (W (ps b).a) (.fcons 1 (.imm (mach (ps b).m.f (ps b).m.g (ps b).m.pc false (ps b).m.xt)) (.fcons 2 (.imm (.st 4 (.fcons 0 (Gg AF Pr.zero (ps b).p) (.fcons 1 (.ptr 4 []) (.fcons 2 (Gg V.bool false (ps b).sl) (.fcons 3 (.lst 32 (ps b).n fun i=>dg ((ps b).q i)) .fnil)))))) .fnil))):=by unfold Cm FK;rw [hnl]
   simp only [FK] at hS
   have d32:((i:Int) < 32)=True:=eq_true Aa
   by_cases hz:σ.n=0
   ·have h1:SE σ=Nh σ:=if_pos hz
    have h2:RX σ=6:=if_pos hz
    simp only [h1,h2,Nh,Sh,AK,NL,hv,hnl,Adm,Adz] at hR
    (simp only [d0,hne,hb,C7,Av,Aw,Bd,Bp,BH,seval])
    have zz:=@mach.eq_1;refine ofY (hC) ?_
    (simp only [mach,B7,seval])
    have zz:=CX @BZ @CR Gj;refine obY [4] [] (hS) ?_
    (simp only [B7,hT,mach,A3,seval])
    have zz:=Bo @mach.eq_1 Gj;refine G2 [440,441,4,5,442,392] (hR) ?_
    (simp only [Cj,mach,A3,d32,ek,seval])
    have hP0:∀ H:Hp,Lw H [392,440,441,442] 392=true→hget H 392=mach σ.m.f σ.m.g σ.m.pc σ.m.hl σ.m.xt→Lw H [392,440,441,442] 440=true→hget H 440 = .st 4 (.fcons 0 (.map 441) (.fcons 1 (.ptr 4 []) (.fcons 2 (.map 442) (.fcons 3 (.nils) .fnil))))→Af H 441=true→hget H 441=Bv AF Pr.zero σ.w.pres→Af H 442=true→hget H 442=Bv V.bool false σ.l→At H [0,1,2,3,4,5,1240] [392,440,441,442] (.lst 32 σ.n fun i=>dg (σ.q i)) (.nils) →
     At H [0,1,2,3,4,5,1240] [392,440,441,442] (Cm 4 ⟨(ps b).a + BitVec.ofNat 64 k,σ.m,σ.w.pres,σ.l,σ.n,σ.q⟩) (.st 3 (.fcons 0 (W ((ps b).a + BitVec.ofNat 64 k)) (.fcons 1 (.ptr 392 []) (.fcons 2 (.ptr 440 []) .fnil)))) :=
     fun H a1 a2 a3 a4 a5 a6 a7 a8 a9=>N3 (P:=⟨(ps b).a + BitVec.ofNat 64 k,σ.m,σ.w.pres,σ.l,σ.n,σ.q⟩) rfl a1 a2 a3 a4 rfl a5 a6 rfl a7 a8 a9
    refine ⟨by omega,Aq.mk hx [0,1,2,3,4,5,1240] [392,440,441,442] (Cm 4 ⟨(ps b).a + BitVec.ofNat 64 k,σ.m,σ.w.pres,σ.l,σ.n,σ.q⟩) (YB i ps ⟨(ps b).a + BitVec.ofNat 64 k,σ.m,σ.w.pres,σ.l,σ.n,σ.q⟩ d σ.w) 7 Am (by (simp only [Db,seval])) ?_ ?_ ⟨rfl,rfl,rfl⟩⟩
    ·simp only [Db,seval]
     exact hP0 _ rfl rfl rfl rfl rfl rfl rfl rfl (by simp only [At];exact hz)
    ·simp only [YB,Av,Aw,CB,seval]
     intro j hj
     by_cases hj1:j < i
     ·rw [if_pos hj1,if_pos hj1];exact Dy _ _ _ 4 4 rfl _
     ·rw [if_neg hj1,if_neg hj1,if_pos Aa]
      exact hP0 _ rfl rfl rfl rfl rfl rfl rfl rfl (by simp only [At];exact hz)
   ·have h1:SE σ=Sh 6 σ:=if_neg hz
    have h2:RX σ=7:=if_neg hz
    simp only [h1,h2,Nh,Sh,AK,NL,hv,hnl,Adm,Adz] at hR
    (simp only [d0,hne,hb,C7,Av,Aw,Bd,Bp,BH,seval])
    have zz:=@mach.eq_1;refine ofY (hC) ?_
    (simp only [mach,B7,seval])
    have zz:=CX @BZ @CR Gj;refine obY [4] [] (hS) ?_
    (simp only [B7,hT,mach,A3,seval])
    have zz:=Bo @mach.eq_1 Gj;refine G2 [440,441,4,5,442,392] (hR) ?_
    (simp only [Cj,mach,A3,d32,ek,seval])
    have hP0:∀ H:Hp,Lw H [392,440,441,442,664] 392=true→hget H 392=mach σ.m.f σ.m.g σ.m.pc σ.m.hl σ.m.xt→Lw H [392,440,441,442,664] 440=true→hget H 440 = .st 4 (.fcons 0 (.map 441) (.fcons 1 (.ptr 4 []) (.fcons 2 (.map 442) (.fcons 3 (.sl 664 [] 0 σ.n 32) .fnil))))→Af H 441=true→hget H 441=Bv AF Pr.zero σ.w.pres→Af H 442=true→hget H 442=Bv V.bool false σ.l→At H [0,1,2,3,4,5,1240] [392,440,441,442,664] (.lst 32 σ.n fun i=>dg (σ.q i)) (.sl 664 [] 0 σ.n 32) →
     At H [0,1,2,3,4,5,1240] [392,440,441,442,664] (Cm 4 ⟨(ps b).a + BitVec.ofNat 64 k,σ.m,σ.w.pres,σ.l,σ.n,σ.q⟩) (.st 3 (.fcons 0 (W ((ps b).a + BitVec.ofNat 64 k)) (.fcons 1 (.ptr 392 []) (.fcons 2 (.ptr 440 []) .fnil)))) :=
     fun H a1 a2 a3 a4 a5 a6 a7 a8 a9=>N3 (P:=⟨(ps b).a + BitVec.ofNat 64 k,σ.m,σ.w.pres,σ.l,σ.n,σ.q⟩) rfl a1 a2 a3 a4 rfl a5 a6 rfl a7 a8 a9
    refine ⟨by omega,Aq.mk hx [0,1,2,3,4,5,1240] [392,440,441,442,664] (Cm 4 ⟨(ps b).a + BitVec.ofNat 64 k,σ.m,σ.w.pres,σ.l,σ.n,σ.q⟩) (YB i ps ⟨(ps b).a + BitVec.ofNat 64 k,σ.m,σ.w.pres,σ.l,σ.n,σ.q⟩ d σ.w) 7 Am (by (simp only [Db,seval])) ?_ ?_ ⟨rfl,rfl,rfl⟩⟩
    ·simp only [Db,seval]
     exact hP0 _ rfl rfl rfl rfl rfl rfl rfl rfl ⟨⟨rfl,rfl⟩,rfl,trivial,rfl,by omega,fun q _=>(AN _ _ _ _ _).mpr (by rw [Nat.zero_add])⟩
    ·simp only [YB,Av,Aw,CB,seval]
     intro j hj
     by_cases hj1:j < i
     ·rw [if_pos hj1,if_pos hj1];exact Dy _ _ _ 4 4 rfl _
     ·rw [if_neg hj1,if_neg hj1,if_pos Aa]
      exact hP0 _ rfl rfl rfl rfl rfl rfl rfl rfl ⟨⟨rfl,rfl⟩,rfl,trivial,rfl,by omega,fun q _=>(AN _ _ _ _ _).mpr (by rw [Nat.zero_add])⟩
  ·have d0:((i:Int) < (n:Int))=True:=eq_true Aa
   have d1:(0≤(i:Int))=True:=eq_true Aa
   have w1:IntKind.i64.wrap ((i:Int) + 1)=((i + 1:Nat):Int):=Br
   by_cases c1:(ps i).a≤s
   ·by_cases c2:(ps (bi ps s i)).a < (ps i).a
    ·have e3:bi ps s (i + 1)=i:=by rw [bi,if_pos ⟨c1,c2⟩]
     (simp only [d0,d1,w1,c1,c2,Av,Aw,Cm,FK,Bd,Bp,BH,LZ,seval])
     refine ⟨by omega,i + 1,by omega,by omega,?_⟩
     refine Ao.fr [0,1,2,3,4,5,6,7] [] hx AX Am ?_ ?_
     ·simp only [LY,seval]
     ·simp only [Av,Aw,Cm,FK,e3,CB,BZ,CR,dg,seval]
    ·have e3:bi ps s (i + 1)=bi ps s i:=by rw [bi,if_neg (fun h=>c2 h.2)]
     (simp only [d0,d1,w1,c1,c2,Av,Aw,Cm,FK,Bd,Bp,BH,LZ,seval])
     refine ⟨by omega,i + 1,by omega,by omega,?_⟩
     refine Ao.fr [0,1,2,3,4,5,6,7] [] hx AX Am ?_ ?_
     ·simp only [LY,seval]
     ·simp only [Av,Aw,Cm,FK,e3,CB,BZ,CR,dg,seval]
   ·have e3:bi ps s (i + 1)=bi ps s i:=by rw [bi,if_neg (fun h=>c1 h.1)]
    (simp only [d0,d1,w1,c1,Av,Aw,Cm,FK,Bd,Bp,BH,LZ,seval])
    refine ⟨by omega,i + 1,by omega,by omega,?_⟩
    refine Ao.fr [0,1,2,3,4,5,6,7] [] hx AX Am ?_ ?_
    ·simp only [LY,seval]
    ·simp only [Av,Aw,Cm,FK,e3,CB,BZ,CR,dg,seval]
def FG (p:BitVec 64):List (BitVec 64)→Option Nat
 | []=>none
 | q :: r=>if p=q then some 0 else (FG p r).map (· + 1)
def Ik (cm:BitVec 64→Dg) (l:List (BitVec 64)):V:=.mp l.length (fun j=>W (l.getD j 0#64)) (fun j=>dg (cm (l.getD j 0#64)))
theorem YU (p q:BitVec 64):AP .int (W p) (W q)=decide (p=q):=by
 simp only [W,AP]
 by_cases h:p=q
 ·subst h;simp
 ·rw [decide_eq_false h,decide_eq_false]
  intro h2;exact h (BitVec.eq_of_toNat_eq Aa)
theorem NF (p q:BitVec 64):AL true .int (W p) (W q)=True:=by simp [AL,W]
theorem Ka (p:BitVec 64):(W p).solid=true:=rfl
theorem Pv (p:BitVec 64) (ks:Nat→V):∀ (l:List (BitVec 64)) (i:Nat),(∀ j,j < l.length→ks (i + j)=W (l.getD j 0#64))→GQ .int (W p) ks i l.length=(FG p l).map (i + ·)
 | [],_,_=>rfl
 | q :: r, i, h => by
   have h0:=h 0 BD
   simp only [Nat.add_zero,List.getD_cons_zero] at h0
   have ih:=Pv p ks r (i + 1) (fun j hj=>by
    have:=h (j + 1) (by simpa using hj)
    simp only [List.getD_cons_succ] at this
    rw [← this];congr 1;omega)
   simp only [List.length_cons,GQ,h0,YU,FG]
   by_cases hk:p=q
   ·simp [hk]
   ·simp only [hk,decide_false,RW,ih,Option.map_map]
    congr 1
    funext j
    simp only [Function.comp];omega
theorem MO (p:BitVec 64) (l:List (BitVec 64)):GQ .int (W p) (fun j=>W (l.getD j 0#64)) 0 l.length=FG p l:=by
 rw [Pv p _ l 0 (fun j _=>by rw [Nat.zero_add])]
 cases FG p l <;> simp
theorem Ov (p:BitVec 64):∀ (l:List (BitVec 64)) (i:Nat),FG p l=some i→l.getD i 0#64=p
 | [],_,h=>by cases h
 | q :: r, i, h => by
   rw [FG] at h
   by_cases hk:p=q
   ·rw [if_pos hk] at h
    cases h
    exact hk.symm
   ·rw [if_neg hk] at h
    cases hr:FG p r with
    | none=>rw [hr] at h;cases h
    | some k =>
      rw [hr] at h
      cases h
      exact Ov p r k hr
theorem Mr (cm:BitVec 64→Dg) (z:Z) (hh:Bool) (l:List (BitVec 64)) (p:BitVec 64) (H:Hp) (i:Nat) (h:FG p l=some i):CJ .int z true hh (Ik cm l) (W p) H=⟨hh=true,.tup (.fcons 0 (dg (cm p)) (.fcons 1 (.bool true) .fnil)),H⟩:=by
 simp only [CJ,Ik,MO,h,Ka,NF,implies_true,N9,if_true,Ov p l i h]
theorem LA (cm:BitVec 64→Dg) (z:Z) (hh:Bool) (l:List (BitVec 64)) (p:BitVec 64) (H:Hp) (h:FG p l=none):CJ .int z true hh (Ik cm l) (W p) H=⟨hh=true,.tup (.fcons 0 (z.v 0) (.fcons 1 (.bool false) .fnil)),H⟩:=by
 simp only [CJ,Ik,MO,h,Ka,NF,implies_true,N9,if_true]
theorem Pq (cm:BitVec 64→Dg) (hh:Bool) (l:List (BitVec 64)) (p:BitVec 64) (id:Nat) (H:Hp) (h:FG p l=none):Gn .int hh (Ik cm l) (W p) (dg (cm p)) id H=⟨hh=true,.tup .fnil,Cs H id (Ik cm (l ++ [p]))⟩:=by
 have e:Ik cm (l ++ [p]) = .mp (l.length + 1) (fun j=>if j=l.length then W p else W (l.getD j 0#64)) (fun j=>if j=l.length then dg (cm p) else dg (cm (l.getD j 0#64))):=by
  simp only [Ik,List.length_append,List.length_singleton,Mu]
  congr 1
  ·funext j;split <;> rfl
  ·funext j;split <;> rfl
 rw [e]
 simp only [Gn,Ik,MO,h,Ka,Df,NF,Option.getD_none,implies_true,N9]
theorem Bb (m:List Nat) (cm:BitVec 64→Dg) (l:List (BitVec 64)):(Ik cm l).ren m=Ik cm l:=by
 simp only [Ik,V.ren,AC,W]
theorem A8 (H:Hp) (m z:List Nat) (cm:BitVec 64→Dg) (l:List (BitVec 64)):At H m z (Ik cm l) (Ik cm l)=True:=by
 refine eq_true ?_
 simp only [Ik,At,true_and]
 exact fun i _=>⟨by simp [At,W],(AN _ _ _ _ _).mpr rfl⟩
structure Pts (m0:Mc) (p0:List (Dg × Pr)) (n:Nat) (ps:Nat→Pt):Prop where
 pos:0 < n
 z:(ps 0).a=0#64
 b:∀ j,j < n→(ps j).a.toNat < 536870912
 x:∀ j,j < n→((ps j).m,(ps j).p)=xs m0 p0 (ps j).a.toNat
 k:∀ j,j < n→C3 (ps j).p
theorem Y0 {M:Seat} (ok:OkRc M) {m0:Mc} {p0:List (Dg × Pr)} (n:Nat) (hn2:n < 32) (ps:Nat→Pt) (h:Pts m0 p0 n ps) (d:Int) (w:WS) (s:BitVec 64) (hs:s.toNat < 536870912) :
 ∃ (P:Pt) (w':WS),P.a.toNat≤s.toNat∧(P.m,P.p)=xs m0 p0 s.toNat∧(P.m,P.p)=xs m0 p0 P.a.toNat∧C3 P.p ∧
  (Ae M 275 [.ptr 0 [],W s] (tH n ps d w) 6 (Q3 (Cm 4 P) (tH n ps d w) 6) ∨
   (Ae M 275 [.ptr 0 [],W s] (tH n ps d w) 6 (Q3 (Cm 4 P) (YB n ps P d w') 7)∧Pts m0 p0 (n + 1) (fun j=>if j < n then ps j else P))):=by
 have hb:=Acn ps s n h.pos n (Nat.le_refl _)
 have h00:(ps 0).a≤s:=by rw [h.z,BitVec.le_def];exact Nat.zero_le _
 have hle:=Xt ps s h00 n
 rw [BitVec.le_def] at hle
 have hx:=h.x _ hb
 by_cases h1:(ps (bi ps s n)).a=s
 ·exact ⟨_,w,by omega,by have e:=congrArg BitVec.toNat h1;rw [← e];exact hx,hx,h.k _ hb,.inl (I4 ok n h.pos hn2 ps d w s (.inl h1))⟩
 ·by_cases h2:(ps (bi ps s n)).m.hl=true
  ·refine ⟨_,w,hle,?_,hx,h.k _ hb,.inl (I4 ok n h.pos hn2 ps d w s (.inr h2))⟩
   obtain ⟨q,hq⟩:∃ q,s.toNat=(ps (bi ps s n)).a.toNat + q:=⟨s.toNat - (ps (bi ps s n)).a.toNat,by omega⟩
   rw [hq,Afz _ (by rw [← hx];exact h2)]
   exact hx
  ·obtain ⟨P,w',k,k1,k2,k3,k4,k5,k6⟩:=Un ok n h.pos hn2 ps d w s h00 Aa h1 (by simpa using h2) (h.k _ hb)
   generalize bi ps s n=b at *
   have e0:(s - (ps b).a).toNat=s.toNat - (ps b).a.toNat:=BitVec.toNat_sub_of_le (by rw [BitVec.le_def];exact hle)
   rw [e0] at k1 k3
   have ea:P.a.toNat=(ps b).a.toNat + k:=by
    rw [k2,BitVec.toNat_add,BitVec.toNat_ofNat]
    omega
   have exP:(P.m,P.p)=xs m0 p0 P.a.toNat:=by
    rw [ea,Vt,← hx];exact k4
   have exS:(P.m,P.p)=xs m0 p0 s.toNat:=by
    rcases k3 with k3 | k3
    ·obtain ⟨q,hq⟩:∃ q,s.toNat=P.a.toNat + q:=⟨s.toNat - P.a.toNat,by omega⟩
     rw [hq,Afz _ (by rw [← exP];exact k3)]
     exact exP
    ·rw [exP];congr 1;omega
   refine ⟨P,w',by omega,exS,exP,k5,.inr ⟨k6,⟨by omega,?_,fun j hj=>?_,fun j hj=>?_,fun j hj=>?_⟩⟩⟩
   ·rw [if_pos h.pos];exact h.z
   ·split
    ·exact h.b j (by assumption)
    ·omega
   ·split
    ·exact h.x j (by assumption)
    ·exact exP
   ·split
    ·exact h.k j (by assumption)
    ·exact k5
variable {M:Seat}
def tF (n:Nat) (ps:Nat→Pt) (d:Int) (w:WS) (l:List (Nat→BitVec 64)) (cm:BitVec 64→Dg) (knl:List (BitVec 64)):Hp :=
 [(0,Av (.sl 2 [] 0 n 3) d (.map 3) (.map 1)),(1,DI l),(2,.ar 3 n fun j=>Cm 4 (ps j)),(3,Ik cm knl),(4,Aw 5 w.a w.b w.met),(5,Bv AF Pr.zero w.ever)]
def tF' (n:Nat) (ps:Nat→Pt) (P:Pt) (d:Int) (w:WS) (l:List (Nat→BitVec 64)) (cm:BitVec 64→Dg) (knl:List (BitVec 64)):Hp :=
 [(0,Av (.sl 6 [] 0 (n + 1) 3) d (.map 3) (.map 1)),(1,DI l),(3,Ik cm knl),(4,Aw 5 w.a w.b w.met),(5,Bv AF Pr.zero w.ever),(6,.ar 3 (n + 1) fun j=>Cm 4 (if j < n then ps j else P))]
structure OkAx (M:Seat):Prop where
 r:OkRc M
 k154:Ar M 154 Nk=true
theorem E8 (m:List Nat) (h:m[4]?=some 4) (p:List (Dg × Pr)) (sl:List (Dg × Bool)) (n:Nat) (q:Nat→Dg):(FK p 4 sl n q).ren m=FK p 4 sl n q:=by
 simp only [FK,V.ren,h,O3,So,AC]
theorem Bi (m:List Nat) (h:m[4]?=some 4) (P:Pt):(Cm 4 P).ren m=Cm 4 P:=Jb 4 4 m h P
theorem AD (H:Hp) (m z:List Nat) (h:m[4]?=some 4) (P:Pt):At H m z (Cm 4 P) (Cm 4 P)=True:=eq_true (Dy H m z 4 4 h P)
theorem TY (ok:OkAx M) (n:Nat) (ps:Nat→Pt) (d:Nat) (hd:d < 64) (w w':WS) (l:List (Nat→BitVec 64)) (cm:BitVec 64→Dg) (knl:List (BitVec 64)) (i:BitVec 64) (hi:¬ 1#64 <<< d≤i) (P:Pt) (e:Nat) (hk:FG P.a knl=some e)
 (hR:Ae M 275 [.ptr 0 [],W (i + 1#64)] (tH n ps d w) 6 (Q3 (Cm 4 P) (tH n ps d w) 6)) :
 Ae M 154 [.ptr 0 [],W i] (tF n ps d w l cm knl) 6 (Q3 (Ag (dg (cm P.a)) .nili) (tF n ps d w l cm knl) 6):=by
 have hl:=fun z hh H=>Mr cm z hh knl P.a H e hk
 have hb:Cm 4 P = .st 3 (.fcons 0 (W P.a) (.fcons 1 (.imm (mach P.m.f P.m.g P.m.pc P.m.hl P.m.xt)) (.fcons 2 (.imm (FK P.p 4 P.sl P.n P.q)) .fnil))):=rfl
 unfold tF tH at *
 skip
 simp only [Av,Aw] at hR
 refine Ab ok.k154 rfl fun x hx=>?_
 refine es 2000 ?_;(simp only [Nk,O2,Av,Aw,LZ,seval])
 repeat refine sd ?_
 (simp only [hi,LZ,seval])
 have zz:=EH @Av.eq_1 @Aw.eq_1 @Cn @AD;refine Co [0,1,2,3,4,5] [0,2,4,5] (hR) ?_
 (simp only [Av,Aw,B7,A5,Bb,Bi,BC,E8,hb,hl,Bd,Bp,BH,seval])
 have zz:=aq7 Lbv @Av.eq_1 @Aw.eq_1 @Ak @A8 @AD @dg.eq_1;exact Bu hx [0,1,2,3,4,5] ⟨rfl,rfl,rfl⟩
theorem UF (ok:OkAx M) (n:Nat) (ps:Nat→Pt) (d:Nat) (hd:d < 64) (w w':WS) (l:List (Nat→BitVec 64)) (cm:BitVec 64→Dg) (knl:List (BitVec 64)) (i:BitVec 64) (hi:¬ 1#64 <<< d≤i) (P:Pt) (e:Nat) (hk:FG P.a knl=some e)
 (hR:Ae M 275 [.ptr 0 [],W (i + 1#64)] (tH n ps d w) 6 (Q3 (Cm 4 P) (YB n ps P d w') 7)) :
 Ae M 154 [.ptr 0 [],W i] (tF n ps d w l cm knl) 6 (Q3 (Ag (dg (cm P.a)) .nili) (tF' n ps P d w' l cm knl) 7):=by
 have hl:=fun z hh H=>Mr cm z hh knl P.a H e hk
 have hb:Cm 4 P = .st 3 (.fcons 0 (W P.a) (.fcons 1 (.imm (mach P.m.f P.m.g P.m.pc P.m.hl P.m.xt)) (.fcons 2 (.imm (FK P.p 4 P.sl P.n P.q)) .fnil))):=rfl
 unfold tF tH at *
 unfold tF' YB at *
 simp only [Av,Aw] at hR
 refine Ab ok.k154 rfl fun x hx=>?_
 refine es 2000 ?_;(simp only [Nk,O2,Av,Aw,LZ,seval])
 repeat refine sd ?_
 (simp only [hi,LZ,seval])
 have zz:=EH @Av.eq_1 @Aw.eq_1 @Cn @AD;refine Co [0,1,2,3,4,5] [0,2,4,5] (hR) ?_
 (simp only [Av,Aw,B7,A5,Bb,Bi,BC,E8,hb,hl,Bd,Bp,BH,seval])
 have zz:=aq7 Lbv @Av.eq_1 @Aw.eq_1 @Ak @A8 @AD @dg.eq_1;exact Bu hx [0,1,2,3,4,5,262] ⟨rfl,rfl,rfl⟩
theorem T9 (ok:OkAx M) (n:Nat) (ps:Nat→Pt) (d:Nat) (hd:d < 64) (w w':WS) (l:List (Nat→BitVec 64)) (cm:BitVec 64→Dg) (knl:List (BitVec 64)) (i:BitVec 64) (hi:¬ 1#64 <<< d≤i) (P:Pt) (hk:FG P.a knl=none) (hc:cm P.a=P.m.com)
 (hR:Ae M 275 [.ptr 0 [],W (i + 1#64)] (tH n ps d w) 6 (Q3 (Cm 4 P) (tH n ps d w) 6)) :
 Ae M 154 [.ptr 0 [],W i] (tF n ps d w l cm knl) 6 (Q3 (Ag (dg (cm P.a)) .nili) (tF n ps d w (oK P.m.f l 256) cm (knl ++ [P.a])) 6):=by
 have hl:=fun z hh H=>LA cm z hh knl P.a H hk
 have hu:=fun hh id H=>Pq cm hh knl P.a id H hk
 have hb:Cm 4 P = .st 3 (.fcons 0 (W P.a) (.fcons 1 (.imm (mach P.m.f P.m.g P.m.pc P.m.hl P.m.xt)) (.fcons 2 (.imm (FK P.p 4 P.sl P.n P.q)) .fnil))):=rfl
 have hO:=J8 ok.r.o P.m.f P.m.g P.m.pc P.m.hl P.m.xt n d l
 have hcc:BX (BV P.m.f 13 0) (Ea P.m.g P.m.pc P.m.hl P.m.xt)=cm P.a:=hc.symm
 unfold tF tH at *
 skip
 simp only [Av,Aw] at hR
 refine Ab ok.k154 rfl fun x hx=>?_
 refine es 2000 ?_;(simp only [Nk,O2,Av,Aw,LZ,seval])
 repeat refine sd ?_
 (simp only [hi,LZ,seval])
 have zz:=EH @Av.eq_1 @Aw.eq_1 @Cn @AD;refine Co [0,1,2,3,4,5] [0,2,4,5] (hR) ?_
 (simp only [Av,Aw,B7,A5,Bb,Bi,BC,E8,hb,hl,Bd,Bp,BH,seval])
 have zz:=CX @Av.eq_1 @mach.eq_1 @Ak;refine Co [0,1,2,3] [0,1] (hO) ?_
 rw [hcc]
 (simp only [Av,Aw,Cj,A5,Bb,Bi,BC,E8,hb,hu,Bd,Bp,BH,seval])
 have zz:=aq7 Lbv @Av.eq_1 @Aw.eq_1 @Ak @A8 @AD @dg.eq_1;exact Bu hx [0,1,2,3,4,5] ⟨rfl,rfl,rfl⟩
theorem Uj (ok:OkAx M) (n:Nat) (ps:Nat→Pt) (d:Nat) (hd:d < 64) (w w':WS) (l:List (Nat→BitVec 64)) (cm:BitVec 64→Dg) (knl:List (BitVec 64)) (i:BitVec 64) (hi:¬ 1#64 <<< d≤i) (P:Pt) (hk:FG P.a knl=none) (hc:cm P.a=P.m.com)
 (hR:Ae M 275 [.ptr 0 [],W (i + 1#64)] (tH n ps d w) 6 (Q3 (Cm 4 P) (YB n ps P d w') 7)) :
 Ae M 154 [.ptr 0 [],W i] (tF n ps d w l cm knl) 6 (Q3 (Ag (dg (cm P.a)) .nili) (tF' n ps P d w' (oK P.m.f l 256) cm (knl ++ [P.a])) 7):=by
 have hl:=fun z hh H=>LA cm z hh knl P.a H hk
 have hu:=fun hh id H=>Pq cm hh knl P.a id H hk
 have hb:Cm 4 P = .st 3 (.fcons 0 (W P.a) (.fcons 1 (.imm (mach P.m.f P.m.g P.m.pc P.m.hl P.m.xt)) (.fcons 2 (.imm (FK P.p 4 P.sl P.n P.q)) .fnil))):=rfl
 have hO:=J8 ok.r.o P.m.f P.m.g P.m.pc P.m.hl P.m.xt (n + 1) d l
 have hcc:BX (BV P.m.f 13 0) (Ea P.m.g P.m.pc P.m.hl P.m.xt)=cm P.a:=hc.symm
 unfold tF tH at *
 unfold tF' YB at *
 simp only [Av,Aw] at hR
 refine Ab ok.k154 rfl fun x hx=>?_
 refine es 2000 ?_;(simp only [Nk,O2,Av,Aw,LZ,seval])
 repeat refine sd ?_
 (simp only [hi,LZ,seval])
 have zz:=EH @Av.eq_1 @Aw.eq_1 @Cn @AD;refine Co [0,1,2,3,4,5] [0,2,4,5] (hR) ?_
 (simp only [Av,Aw,B7,A5,Bb,Bi,BC,E8,hb,hl,Bd,Bp,BH,seval])
 have zz:=CX @Av.eq_1 @mach.eq_1 @Ak;refine Co [0,1,262,3] [0,1] (hO) ?_
 rw [hcc]
 (simp only [Av,Aw,Cj,A5,Bb,Bi,BC,E8,hb,hu,Bd,Bp,BH,seval])
 have zz:=aq7 Lbv @Av.eq_1 @Aw.eq_1 @Ak @A8 @AD @dg.eq_1;exact Bu hx [0,1,2,3,4,5,262] ⟨rfl,rfl,rfl⟩
structure Tr where
 n:Nat
 ps:Nat→Pt
 w:WS
 l:List (Nat→BitVec 64)
 knl:List (BitVec 64)
noncomputable def FH (m0:Mc) (p0:List (Dg × Pr)) (k:BitVec 64):Dg:=(xs m0 p0 k.toNat).1.com
def Tr.H (t:Tr) (d:Nat) (cm:BitVec 64→Dg):Hp:=[(0,Av (.sl 2 [] 0 t.n 3) d (.map 3) (.map 1)),(1,DI t.l),(2,.ar 3 t.n fun j=>Cm 4 (t.ps j)),(3,Ik cm t.knl),(4,Aw 5 t.w.a t.w.b t.w.met),(5,Bv AF Pr.zero t.w.ever)]
def Tr.H6 (t:Tr) (d:Nat) (cm:BitVec 64→Dg):Hp:=[(0,Av (.sl 6 [] 0 t.n 3) d (.map 3) (.map 1)),(1,DI t.l),(3,Ik cm t.knl),(4,Aw 5 t.w.a t.w.b t.w.met),(5,Bv AF Pr.zero t.w.ever),(6,.ar 3 t.n fun j=>Cm 4 (t.ps j))]
theorem Ahs {d:Nat} (hd:d < 20) {i:BitVec 64} (hi:i.toNat < 2 ^ d):¬ 1#64 <<< d≤i:=by
 rw [BitVec.le_def,BitVec.toNat_shiftLeft,Nat.shiftLeft_eq]
 have:2 ^ d≤2 ^ 20:=Nat.pow_le_pow_right Am Aa
 rw [Nat.mod_eq_of_lt (by show 1 * 2 ^ d < 18446744073709551616;omega)]
 show ¬ 1 * 2 ^ d≤i.toNat
 omega
theorem SY {M:Seat} (ok:OkAx M) {m0:Mc} {p0:List (Dg × Pr)} (t:Tr) (ht:t.n < 32) (hp:Pts m0 p0 t.n t.ps) (d:Nat) (hd:d < 20) (i:BitVec 64) (hi:i.toNat < 2 ^ d) :
 ∃ t':Tr,t'.n≤t.n + 1∧Pts m0 p0 t'.n t'.ps ∧
  (Ae M 154 [.ptr 0 [],W i] (t.H d (FH m0 p0)) 6 (Q3 (Ag (dg (FH m0 p0 (i + 1#64))) .nili) (t'.H d (FH m0 p0)) 6) ∨
   Ae M 154 [.ptr 0 [],W i] (t.H d (FH m0 p0)) 6 (Q3 (Ag (dg (FH m0 p0 (i + 1#64))) .nili) (t'.H6 d (FH m0 p0)) 7)):=by
 have hl:=Ahs hd hi
 have h20:2 ^ d≤2 ^ 20:=Nat.pow_le_pow_right Am Aa
 have hi1:(i + 1#64).toNat=i.toNat + 1:=by rw [BitVec.toNat_add];show (i.toNat + 1) % 18446744073709551616=_;omega
 obtain ⟨P,w',h1,h2,h3,h4,h5⟩:=Y0 ok.r t.n ht t.ps hp d t.w (i + 1#64) (by rw [hi1];omega)
 have hc:FH m0 p0 P.a=P.m.com:=by unfold FH;rw [← h3]
 have hc2:FH m0 p0 P.a=FH m0 p0 (i + 1#64):=by rw [hc];unfold FH;rw [← h2]
 rw [← hc2]
 rcases h5 with h5 | ⟨h5,h6⟩
 ·cases hk:FG P.a t.knl with
  | some e=>exact ⟨t,Nat.le_succ _,hp,.inl (TY ok t.n t.ps d Aa t.w t.w t.l _ t.knl i hl P e hk h5)⟩
  | none =>
    have hA:=T9 ok t.n t.ps d Aa t.w t.w t.l _ t.knl i hl P hk hc h5
    generalize oK P.m.f t.l 256=L at hA
    exact ⟨⟨t.n,t.ps,t.w,L,t.knl ++ [P.a]⟩,Nat.le_succ _,hp,.inl hA⟩
 ·cases hk:FG P.a t.knl with
  | some e=>exact ⟨⟨t.n + 1,fun j=>if j < t.n then t.ps j else P,w',t.l,t.knl⟩,Nat.le_refl _,h6,.inr (UF ok t.n t.ps d Aa t.w w' t.l _ t.knl i hl P e hk h5)⟩
  | none =>
    have hA:=Uj ok t.n t.ps d Aa t.w w' t.l _ t.knl i hl P hk hc h5
    generalize oK P.m.f t.l 256=L at hA
    exact ⟨⟨t.n + 1,fun j=>if j < t.n then t.ps j else P,w',L,t.knl ++ [P.a]⟩,Nat.le_refl _,h6,.inr hA⟩
structure OkAs (M:Seat):Prop where
 a:OkAx M
 k153:Ar M 153 Aa6=true
theorem NM {M:Seat} (ok:OkAs M) (n:Nat) (hn:0 < n) (ps:Nat→Pt) (d:Nat) (l:List (Nat→BitVec 64)) :
 Ae M 153 [.ptr 0 []] [(0,Av (.sl 2 [] 0 n 3) d (.map 3) (.map 1)),(1,DI l),(2,.ar 3 n fun j=>Cm 4 (ps j))] 6
  (Q3 (Ag (dg (ps 0).m.com) .nili) [(0,Av (.sl 2 [] 0 n 3) d (.map 3) (.map 1)),(1,DI (oK (ps 0).m.f l 256)),(2,.ar 3 n fun j=>Cm 4 (ps j))] 6):=by
 have hO:=J8 ok.a.r.o (ps 0).m.f (ps 0).m.g (ps 0).m.pc (ps 0).m.hl (ps 0).m.xt n d l
 rw [show BX (BV (ps 0).m.f 13 0) (Ea (ps 0).m.g (ps 0).m.pc (ps 0).m.hl (ps 0).m.xt)=(ps 0).m.com from rfl] at hO
 have hb:Cm 4 (ps 0) = .st 3 (.fcons 0 (W (ps 0).a) (.fcons 1 (.imm (mach (ps 0).m.f (ps 0).m.g (ps 0).m.pc (ps 0).m.hl (ps 0).m.xt)) (.fcons 2 (.imm (FK (ps 0).p 4 (ps 0).sl (ps 0).n (ps 0).q)) .fnil))):=rfl
 refine Ab ok.k153 rfl fun x hx=>?_
 refine es 2000 ?_;(simp only [Aa6,Ah9,Av,hb,LZ,seval])
 repeat refine sd ?_
 have zz:=CX @Av.eq_1 @mach.eq_1 @Ak;refine Co [0,1,2,3] [0,1] (hO) ?_
 (simp only [Cj,Av,A5,seval])
 have zz:=GE @Ag.eq_1 @Av.eq_1 @Ak @AD @dg.eq_1;exact Bu hx [0,1,2,3,4,5] ⟨rfl,rfl,rfl⟩
end Mv
