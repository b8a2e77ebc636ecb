/- A part. -/
import Derived.Test.YtncipgmjhaiagaaGreatDoorHI
set_option linter.all false
set_option maxRecDepth 20000
set_option maxHeartbeats 4000000
namespace Mv
open Go
structure Ps where
 f:Nat→BitVec 64
 l:List Pf
 pre:Pr
def prR (s:Ps) (a:BitVec 64):BitVec 64 × Option Int × Ps:=(s.f a.toNat,none,⟨s.f,s.l ++ [Bf s.f a],s.pre⟩)
def prW (s:Ps) (a v:BitVec 64):Option Int × Ps:=(none,⟨E9 s.f a.toNat v,s.l ++ [Bf s.f a],s.pre⟩)
def OP (pres:List (Dg × Pr)) (s:Ps) (h:Dg):Pr × Option Int × Ps:=match Dv h pres with
 | some p=>(p,none,⟨s.f,s.l,p⟩)
 | none=>(Pr.zero,some 14,⟨s.f,s.l,Pr.zero⟩)
def Fc (pres:List (Dg × Pr)):Mm Ps:=⟨prR,prW,OP pres⟩
theorem Own.no {b n i:Nat} {own:Hp} (ho:Own b n own) (h:i < 17 ∨ i=b ∨ n≤i):Ae own i=false:=by
 cases hh:Ae own i with
 | false=>rfl
 | true=>have:=ho i hh;omega
def Ll (g:Nat→BitVec 64) (pc:BitVec 64) (hl:Bool) (xt:BitVec 64) (pres:List (Dg × Pr)) (q:Nat) (s:Ps) (b:Nat):Hp :=
 [(0,Dc (.sl b [] 0 s.l.length 2) s.pre),(1,mach s.f g pc hl xt),(2,CU (.nils)),(3,Bv At Pr.zero pres),(b,.ar 2 s.l.length (Dz s.l))]
def YB (g:Nat→BitVec 64) (pc:BitVec 64) (hl:Bool) (xt:BitVec 64) (pres:List (Dg × Pr)) (q:Nat) (s:Ps):Hp :=
 [(0,Dc .nils s.pre),(1,mach s.f g pc hl xt),(2,CU (.nils)),(3,Bv At Pr.zero pres)]
theorem MH (g:Nat→BitVec 64) (pc:BitVec 64) (hl:Bool) (xt:BitVec 64) (pres:List (Dg × Pr)) (q:Nat) (s:Ps) (b b':Nat) (H:Hp) (m z:List Nat) (hm:∀ i,i < 6→m[i]?=some i) (hb:m[b']?=some b)
 (hH:∀ i,Ae (Ll g pc hl xt pres q s b) i=true→Ae H i=true∧hget H i=hget (Ll g pc hl xt pres q s b) i) (hk:6≤b):Bk H m z (Ll g pc hl xt pres q s b'):=by
 have n0:¬ 0=b:=Aa
 have n1:¬ 1=b:=Aa
 have n2:¬ 2=b:=Aa
 have n3:¬ 3=b:=Aa
 have h0:=hH 0 rfl
 have h1:=hH 1 rfl
 have h2:=hH 2 rfl
 have h3:=hH 3 rfl
 have h4:=hH b (by simp [Ll,Ae])
 have g4:hget (Ll g pc hl xt pres q s b) b = .ar 2 s.l.length (Dz s.l):=by simp only [Ll,hget,n0,n1,n2,n3,CD]
 rw [g4] at h4
 simp only [Ll,hget,if_true,seval] at h0 h1 h2 h3
 simp only [Ll,Bk,hm 0 Aa,hm 1 Aa,hm 2 Aa,hm 3 Aa,hb,h0,h1,h2,h3,h4,Ld]
 refine ⟨?_,FH ..,?_,?_,?_⟩
 ·simp only [Dc,Aw,hm 1 Aa,hm 2 Aa,hb,Ld,Dl]
 ·simp only [CU,Aw,hm 3 Aa,hm 4 Aa,hm 5 Aa,Ld]
  try exact hm 6 Aa
 ·exact Gg H m z At (fun x=>(Dl H m z x x).mpr rfl) Pr.zero pres
 ·simp only [Aw,true_and]
  exact fun i _=>(Ca H m z s.l i).mpr trivial
theorem SK (g:Nat→BitVec 64) (pc:BitVec 64) (hl:Bool) (xt:BitVec 64) (pres:List (Dg × Pr)) (q:Nat) (s:Ps) (H:Hp) (m z:List Nat) (hm:∀ i,i < 6→m[i]?=some i)
 (hH:∀ i,Ae (YB g pc hl xt pres q s) i=true→Ae H i=true∧hget H i=hget (YB g pc hl xt pres q s) i):Bk H m z (YB g pc hl xt pres q s):=by
 have h0:=hH 0 rfl
 have h1:=hH 1 rfl
 have h2:=hH 2 rfl
 have h3:=hH 3 rfl
 simp only [YB,hget,if_true,seval] at h0 h1 h2 h3
 simp only [YB,Bk,hm 0 Aa,hm 1 Aa,hm 2 Aa,hm 3 Aa,h0,h1,h2,h3,Ld]
 refine ⟨?_,FH ..,?_,?_⟩
 ·simp only [Dc,Aw,hm 1 Aa,hm 2 Aa,Ld,Dl]
 ·simp only [CU,Aw,hm 3 Aa,hm 4 Aa,hm 5 Aa,Ld]
  try exact hm 6 Aa
 ·exact Gg H m z At (fun x=>(Dl H m z x x).mpr rfl) Pr.zero pres
theorem DX (g:Nat→BitVec 64) (pc:BitVec 64) (hl:Bool) (xt:BitVec 64) (pres:List (Dg × Pr)) (q:Nat) (s:Ps) (b i:Nat) (h:Ae (Ll g pc hl xt pres q s b) i=true):i < 4 ∨ i=b:=by
 simp only [Ll,Oi,beq_iff_eq,Bool.or_false] at h;omega
theorem MU (g:Nat→BitVec 64) (pc:BitVec 64) (hl:Bool) (xt:BitVec 64) (pres:List (Dg × Pr)) (q:Nat) (s:Ps) (i:Nat) (h:Ae (YB g pc hl xt pres q s) i=true):i < 4:=by
 simp only [YB,Oi,beq_iff_eq,Bool.or_false] at h;omega
theorem Qa (g:Nat→BitVec 64) (pc:BitVec 64) (hl:Bool) (xt:BitVec 64) (pres:List (Dg × Pr)) (q:Nat) (s:Ps) (b:Nat) (hb:6≤b):A4 (Ll g pc hl xt pres q s b) [0,1,2,3,b]=[]:=by
 have n0:¬ b=0:=Aa
 have n1:¬ b=1:=Aa
 have n2:¬ b=2:=Aa
 have n3:¬ b=3:=Aa
 have n0':¬ 0=b:=Aa
 have n1':¬ 1=b:=Aa
 have n2':¬ 2=b:=Aa
 have n3':¬ 3=b:=Aa
 simp only [A4,Ll,BO,n0,n1,n2,n3,n0',n1',n2',n3',CD,seval]
theorem Yw {b:Nat} (hb:6≤b):([0,1,2,3,4,5,b]:List Nat).Nodup:=by
 rw [show ([0,1,2,3,4,5,b]:List Nat)=[0,1,2,3,4,5] ++ [b] from rfl,List.nodup_append]
 refine ⟨by decide,by simp,fun a ha c hc=>?_⟩
 simp only [Vn] at ha hc
 omega
def Ait {M:Seat} (okA:OkM M) (okO:OkO M) (ok:OkPr M) (g:Nat→BitVec 64) (pc:BitVec 64) (hl:Bool) (xt:BitVec 64) (pres:List (Dg × Pr)) (q:Nat):MemI M where
 σ:=Ps
 t:=422
 ht:=.inl rfl
 k0:=6
 kk:=7
 hk:=Aa
 E s b:=Ll g pc hl xt pres q s b
 E0 s:=YB g pc hl xt pres q s
 mm:=Fc pres
 Z s:=s.l=[]
 len s:=s.l.length
 lr s a:=by simp [Fc,prR]
 lw s a v:=by simp [Fc,prW]
 lp s h:=Ak6
 lz s h:=by simp [h]
 hids s b i h:=by rcases DX g pc hl xt pres q s b i h with h | h <;> omega
 hids0 s i h:=by have:=MU g pc hl xt pres q s i h;omega
 sim0 s H m z hm hH:=SK g pc hl xt pres q s H m z hm hH
 simE s b b' H m z hk hm hb hH:=MH g pc hl xt pres q s b b' H m z hm hb hH hk
 c0 {f us us' v s s'} own {n K} hr hus hv ho hK:=by
  refine CR (E':=Ll g pc hl xt pres q s' n) [0,1,2,3,4,5] [0,1,2,3] hr ?_ Bu Ak ⟨rfl,by omega⟩ (fun i hi=>?_) ?_ (hus _ _ _ rfl) (SK g pc hl xt pres q s _ _ _ (fun i hi=>?_) (Eo fun i hi=>ho.no (by have:=MU g pc hl xt pres q s i hi;omega))) rfl rfl hv (fun i hi=>?_) hK
  ·intro id i h1 h2
   have h:=MU g pc hl xt pres q s id h1
   have:id=0 ∨ id=1 ∨ id=2 ∨ id=3:=Aa
   rcases this with rfl | rfl | rfl | rfl <;> (obtain rfl:=Option.some.inj h2;simp)
  ·simp only [Vn] at hi
   rcases hi with rfl | rfl | rfl | rfl <;> exact ⟨rfl,ho.no Aa⟩
  ·exact fun i hi=>by
    have h:([0,1,2,3,4,5]:List Nat).all (fun i=>Ae (YB g pc hl xt pres q s) i || GJ [0,1,2,3] (YB g pc hl xt pres q s) i)=true:=Bx
    have:=List.all_eq_true.1 h i hi
    simpa using this
  ·have:i=0 ∨ i=1 ∨ i=2 ∨ i=3 ∨ i=4 ∨ i=5 ∨ (i=6∧6=7):=Aa
   rcases this with rfl | rfl | rfl | rfl | rfl | rfl | ⟨rfl,h⟩ <;> first | rfl | omega
  ·rcases DX g pc hl xt pres q s' n i hi with h | h <;> exact ho.no Aa
 ck {f us us' v s s' b} own {n K} hr hus hv hb ho hK:=by
  have hids:∀ i,i ∈ ([0,1,2,3,b]:List Nat)→Ae (Ll g pc hl xt pres q s b) i=true∧Ae own i=false:=fun i hi=>by
   simp only [Vn] at hi
   rcases hi with rfl | rfl | rfl | rfl | rfl
   ·exact ⟨rfl,ho.no Aa⟩
   ·exact ⟨rfl,ho.no Aa⟩
   ·exact ⟨rfl,ho.no Aa⟩
   ·exact ⟨rfl,ho.no Aa⟩
   ·exact ⟨by simp [Ll,Ae],ho.no Aa⟩
  refine CR (E':=Ll g pc hl xt pres q s' n) [0,1,2,3,4,5,b] [0,1,2,3,b] hr ?_ Bu (Yw hb) ⟨rfl,by omega⟩ hids ?_ (hus _ _ _ rfl) (MH g pc hl xt pres q s b 6 _ _ _ (fun i hi=>?_) rfl (Eo fun i hi=>ho.no (by have:=DX g pc hl xt pres q s b i hi;omega)) hb) rfl (Qa g pc hl xt pres q s b hb) hv (fun i hi=>?_) hK
  ·intro id i h1 h2
   have h:=DX g pc hl xt pres q s 6 id h1
   have:id=0 ∨ id=1 ∨ id=2 ∨ id=3 ∨ id=6:=Aa
   rcases this with rfl | rfl | rfl | rfl | rfl <;> (obtain rfl:=Option.some.inj h2;simp)
  ·intro i hi
   by_cases h5:i ∈ ([0,1,2,3,b]:List Nat)
   ·exact .inl (hids i h5).1
   ·right
    have hj:i=4 ∨ i=5 ∨ (i=6∧6=7):=by
     simp only [Vn] at hi h5
     omega
    refine List.any_eq_true.2 ⟨2,by simp,?_⟩
    rcases hj with rfl | rfl | ⟨rfl,h⟩ <;> first | rfl | omega
  ·have:i=0 ∨ i=1 ∨ i=2 ∨ i=3 ∨ i=4 ∨ i=5 ∨ (i=6∧6=7):=Aa
   rcases this with rfl | rfl | rfl | rfl | rfl | rfl | ⟨rfl,h⟩ <;> first | rfl | omega
  ·rcases DX g pc hl xt pres q s' n i hi with h | h <;> exact ho.no Aa
 cu {f us us' v s s' b} own {n K} hr hus hv hb ho hK:=by
  have hids:∀ i,i ∈ ([0,1,2,3,b]:List Nat)→Ae (Ll g pc hl xt pres q s b) i=true∧Ae own i=false:=fun i hi=>by
   simp only [Vn] at hi
   rcases hi with rfl | rfl | rfl | rfl | rfl
   ·exact ⟨rfl,ho.no Aa⟩
   ·exact ⟨rfl,ho.no Aa⟩
   ·exact ⟨rfl,ho.no Aa⟩
   ·exact ⟨rfl,ho.no Aa⟩
   ·exact ⟨by simp [Ll,Ae],ho.no Aa⟩
  refine CR (E':=Ll g pc hl xt pres q s' b) [0,1,2,3,4,5,b] [0,1,2,3,b] hr ?_ Bu (Yw hb) ⟨rfl,by omega⟩ hids ?_ (hus _ _ _ rfl) (MH g pc hl xt pres q s b 6 _ _ _ (fun i hi=>?_) rfl (Eo fun i hi=>ho.no (by have:=DX g pc hl xt pres q s b i hi;omega)) hb) rfl (Qa g pc hl xt pres q s b hb) hv (fun i hi=>?_) hK
  ·intro id i h1 h2
   have h:=DX g pc hl xt pres q s 6 id h1
   have:id=0 ∨ id=1 ∨ id=2 ∨ id=3 ∨ id=6:=Aa
   rcases this with rfl | rfl | rfl | rfl | rfl <;> (obtain rfl:=Option.some.inj h2;simp)
  ·intro i hi
   by_cases h5:i ∈ ([0,1,2,3,b]:List Nat)
   ·exact .inl (hids i h5).1
   ·right
    have hj:i=4 ∨ i=5 ∨ (i=6∧6=7):=by
     simp only [Vn] at hi h5
     omega
    refine List.any_eq_true.2 ⟨2,by simp,?_⟩
    rcases hj with rfl | rfl | ⟨rfl,h⟩ <;> first | rfl | omega
  ·have:i=0 ∨ i=1 ∨ i=2 ∨ i=3 ∨ i=4 ∨ i=5 ∨ (i=6∧6=7):=Aa
   rcases this with rfl | rfl | rfl | rfl | rfl | rfl | ⟨rfl,h⟩ <;> first | rfl | omega
  ·rcases DX g pc hl xt pres q s' b i hi with h | h <;> exact ho.no Aa
 fr:=596
 fw:=597
 fp:=595
 mr:=ok.m0
 mw:=ok.m1
 mp:=ok.m2
 rr0 s a hz ha:=by
  obtain ⟨f,l,pre⟩:=s
  have hz:l=[]:=hz
  subst hz
  exact QV okA ok f g pc hl xt pre pres q a ha
 rr s a hL ha:=LI okA ok s.f g pc hl xt s.pre pres q s.l hL a ha
 rw s a v hL ha:=Uh okA ok s.f g pc hl xt s.pre pres q s.l hL a v ha
 rp s h:=by
  have hP:=T8 ok okO s.f g pc hl xt s.pre pres q s.l h
  show Af M 595 _ _ _ (Q3 (Ao (At (OP pres s h).1) (Cw (OP pres s h).2.1)) (Ll g pc hl xt pres q (OP pres s h).2.2 6) (7 + 1))
  refine up1 ?_
  unfold OP
  cases hk:Dv h pres with
  | none=>rw [hk] at hP;exact hP
  | some p=>rw [hk] at hP;exact hP
def Lq (g:Nat→BitVec 64) (pc:BitVec 64) (hl:Bool) (xt:BitVec 64) (pres:List (Dg × Pr)) (q:Nat) (s:Ps) (b:Nat):Hp :=
 [(0,Dc (.sl b [] 0 s.l.length 2) s.pre),(1,mach s.f g pc hl xt),(2,CU (.sl 6 [] 0 q 32)),(3,Bv At Pr.zero pres),(b,.ar 2 s.l.length (Dz s.l))]
def YD (g:Nat→BitVec 64) (pc:BitVec 64) (hl:Bool) (xt:BitVec 64) (pres:List (Dg × Pr)) (q:Nat) (s:Ps):Hp :=
 [(0,Dc .nils s.pre),(1,mach s.f g pc hl xt),(2,CU (.sl 6 [] 0 q 32)),(3,Bv At Pr.zero pres)]
theorem MQ (g:Nat→BitVec 64) (pc:BitVec 64) (hl:Bool) (xt:BitVec 64) (pres:List (Dg × Pr)) (q:Nat) (s:Ps) (b b':Nat) (H:Hp) (m z:List Nat) (hm:∀ i,i < 7→m[i]?=some i) (hb:m[b']?=some b)
 (hH:∀ i,Ae (Lq g pc hl xt pres q s b) i=true→Ae H i=true∧hget H i=hget (Lq g pc hl xt pres q s b) i) (hk:7≤b):Bk H m z (Lq g pc hl xt pres q s b'):=by
 have n0:¬ 0=b:=Aa
 have n1:¬ 1=b:=Aa
 have n2:¬ 2=b:=Aa
 have n3:¬ 3=b:=Aa
 have h0:=hH 0 rfl
 have h1:=hH 1 rfl
 have h2:=hH 2 rfl
 have h3:=hH 3 rfl
 have h4:=hH b (by simp [Lq,Ae])
 have g4:hget (Lq g pc hl xt pres q s b) b = .ar 2 s.l.length (Dz s.l):=by simp only [Lq,hget,n0,n1,n2,n3,CD]
 rw [g4] at h4
 simp only [Lq,hget,if_true,seval] at h0 h1 h2 h3
 simp only [Lq,Bk,hm 0 Aa,hm 1 Aa,hm 2 Aa,hm 3 Aa,hb,h0,h1,h2,h3,h4,Ld]
 refine ⟨?_,FH ..,?_,?_,?_⟩
 ·simp only [Dc,Aw,hm 1 Aa,hm 2 Aa,hb,Ld,Dl]
 ·simp only [CU,Aw,hm 3 Aa,hm 4 Aa,hm 5 Aa,Ld]
  try exact hm 6 Aa
 ·exact Gg H m z At (fun x=>(Dl H m z x x).mpr rfl) Pr.zero pres
 ·simp only [Aw,true_and]
  exact fun i _=>(Ca H m z s.l i).mpr trivial
theorem Sp (g:Nat→BitVec 64) (pc:BitVec 64) (hl:Bool) (xt:BitVec 64) (pres:List (Dg × Pr)) (q:Nat) (s:Ps) (H:Hp) (m z:List Nat) (hm:∀ i,i < 7→m[i]?=some i)
 (hH:∀ i,Ae (YD g pc hl xt pres q s) i=true→Ae H i=true∧hget H i=hget (YD g pc hl xt pres q s) i):Bk H m z (YD g pc hl xt pres q s):=by
 have h0:=hH 0 rfl
 have h1:=hH 1 rfl
 have h2:=hH 2 rfl
 have h3:=hH 3 rfl
 simp only [YD,hget,if_true,seval] at h0 h1 h2 h3
 simp only [YD,Bk,hm 0 Aa,hm 1 Aa,hm 2 Aa,hm 3 Aa,h0,h1,h2,h3,Ld]
 refine ⟨?_,FH ..,?_,?_⟩
 ·simp only [Dc,Aw,hm 1 Aa,hm 2 Aa,Ld,Dl]
 ·simp only [CU,Aw,hm 3 Aa,hm 4 Aa,hm 5 Aa,Ld]
  try exact hm 6 Aa
 ·exact Gg H m z At (fun x=>(Dl H m z x x).mpr rfl) Pr.zero pres
theorem DW (g:Nat→BitVec 64) (pc:BitVec 64) (hl:Bool) (xt:BitVec 64) (pres:List (Dg × Pr)) (q:Nat) (s:Ps) (b i:Nat) (h:Ae (Lq g pc hl xt pres q s b) i=true):i < 4 ∨ i=b:=by
 simp only [Lq,Oi,beq_iff_eq,Bool.or_false] at h;omega
theorem Nv (g:Nat→BitVec 64) (pc:BitVec 64) (hl:Bool) (xt:BitVec 64) (pres:List (Dg × Pr)) (q:Nat) (s:Ps) (i:Nat) (h:Ae (YD g pc hl xt pres q s) i=true):i < 4:=by
 simp only [YD,Oi,beq_iff_eq,Bool.or_false] at h;omega
theorem OH (g:Nat→BitVec 64) (pc:BitVec 64) (hl:Bool) (xt:BitVec 64) (pres:List (Dg × Pr)) (q:Nat) (s:Ps) (b:Nat) (hb:7≤b):A4 (Lq g pc hl xt pres q s b) [0,1,2,3,b]=[]:=by
 have n0:¬ b=0:=Aa
 have n1:¬ b=1:=Aa
 have n2:¬ b=2:=Aa
 have n3:¬ b=3:=Aa
 have n0':¬ 0=b:=Aa
 have n1':¬ 1=b:=Aa
 have n2':¬ 2=b:=Aa
 have n3':¬ 3=b:=Aa
 simp only [A4,Lq,BO,n0,n1,n2,n3,n0',n1',n2',n3',CD,seval]
theorem XX {b:Nat} (hb:7≤b):([0,1,2,3,4,5,6,b]:List Nat).Nodup:=by
 rw [show ([0,1,2,3,4,5,6,b]:List Nat)=[0,1,2,3,4,5,6] ++ [b] from rfl,List.nodup_append]
 refine ⟨by decide,by simp,fun a ha c hc=>?_⟩
 simp only [Vn] at ha hc
 omega
def Aix {M:Seat} (okA:OkM M) (okO:OkO M) (ok:OkPr M) (g:Nat→BitVec 64) (pc:BitVec 64) (hl:Bool) (xt:BitVec 64) (pres:List (Dg × Pr)) (q:Nat):MemI M where
 σ:=Ps
 t:=422
 ht:=.inl rfl
 k0:=7
 kk:=8
 hk:=Aa
 E s b:=Lq g pc hl xt pres q s b
 E0 s:=YD g pc hl xt pres q s
 mm:=Fc pres
 Z s:=s.l=[]
 len s:=s.l.length
 lr s a:=by simp [Fc,prR]
 lw s a v:=by simp [Fc,prW]
 lp s h:=Ak6
 lz s h:=by simp [h]
 hids s b i h:=by rcases DW g pc hl xt pres q s b i h with h | h <;> omega
 hids0 s i h:=by have:=Nv g pc hl xt pres q s i h;omega
 sim0 s H m z hm hH:=Sp g pc hl xt pres q s H m z hm hH
 simE s b b' H m z hk hm hb hH:=MQ g pc hl xt pres q s b b' H m z hm hb hH hk
 c0 {f us us' v s s'} own {n K} hr hus hv ho hK:=by
  refine CR (E':=Lq g pc hl xt pres q s' n) [0,1,2,3,4,5,6] [0,1,2,3] hr ?_ Bu Ak ⟨rfl,by omega⟩ (fun i hi=>?_) ?_ (hus _ _ _ rfl) (Sp g pc hl xt pres q s _ _ _ (fun i hi=>?_) (Eo fun i hi=>ho.no (by have:=Nv g pc hl xt pres q s i hi;omega))) rfl rfl hv (fun i hi=>?_) hK
  ·intro id i h1 h2
   have h:=Nv g pc hl xt pres q s id h1
   have:id=0 ∨ id=1 ∨ id=2 ∨ id=3:=Aa
   rcases this with rfl | rfl | rfl | rfl <;> (obtain rfl:=Option.some.inj h2;simp)
  ·simp only [Vn] at hi
   rcases hi with rfl | rfl | rfl | rfl <;> exact ⟨rfl,ho.no Aa⟩
  ·exact fun i hi=>by
    have h:([0,1,2,3,4,5,6]:List Nat).all (fun i=>Ae (YD g pc hl xt pres q s) i || GJ [0,1,2,3] (YD g pc hl xt pres q s) i)=true:=Bx
    have:=List.all_eq_true.1 h i hi
    simpa using this
  ·have:i=0 ∨ i=1 ∨ i=2 ∨ i=3 ∨ i=4 ∨ i=5 ∨ (i=6∧7=7):=Aa
   rcases this with rfl | rfl | rfl | rfl | rfl | rfl | ⟨rfl,h⟩ <;> first | rfl | omega
  ·rcases DW g pc hl xt pres q s' n i hi with h | h <;> exact ho.no Aa
 ck {f us us' v s s' b} own {n K} hr hus hv hb ho hK:=by
  have hids:∀ i,i ∈ ([0,1,2,3,b]:List Nat)→Ae (Lq g pc hl xt pres q s b) i=true∧Ae own i=false:=fun i hi=>by
   simp only [Vn] at hi
   rcases hi with rfl | rfl | rfl | rfl | rfl
   ·exact ⟨rfl,ho.no Aa⟩
   ·exact ⟨rfl,ho.no Aa⟩
   ·exact ⟨rfl,ho.no Aa⟩
   ·exact ⟨rfl,ho.no Aa⟩
   ·exact ⟨by simp [Lq,Ae],ho.no Aa⟩
  refine CR (E':=Lq g pc hl xt pres q s' n) [0,1,2,3,4,5,6,b] [0,1,2,3,b] hr ?_ Bu (XX hb) ⟨rfl,by omega⟩ hids ?_ (hus _ _ _ rfl) (MQ g pc hl xt pres q s b 7 _ _ _ (fun i hi=>?_) rfl (Eo fun i hi=>ho.no (by have:=DW g pc hl xt pres q s b i hi;omega)) hb) rfl (OH g pc hl xt pres q s b hb) hv (fun i hi=>?_) hK
  ·intro id i h1 h2
   have h:=DW g pc hl xt pres q s 7 id h1
   have:id=0 ∨ id=1 ∨ id=2 ∨ id=3 ∨ id=7:=Aa
   rcases this with rfl | rfl | rfl | rfl | rfl <;> (obtain rfl:=Option.some.inj h2;simp)
  ·intro i hi
   by_cases h5:i ∈ ([0,1,2,3,b]:List Nat)
   ·exact .inl (hids i h5).1
   ·right
    have hj:i=4 ∨ i=5 ∨ (i=6∧7=7):=by
     simp only [Vn] at hi h5
     omega
    refine List.any_eq_true.2 ⟨2,by simp,?_⟩
    rcases hj with rfl | rfl | ⟨rfl,h⟩ <;> first | rfl | omega
  ·have:i=0 ∨ i=1 ∨ i=2 ∨ i=3 ∨ i=4 ∨ i=5 ∨ (i=6∧7=7):=Aa
   rcases this with rfl | rfl | rfl | rfl | rfl | rfl | ⟨rfl,h⟩ <;> first | rfl | omega
  ·rcases DW g pc hl xt pres q s' n i hi with h | h <;> exact ho.no Aa
 cu {f us us' v s s' b} own {n K} hr hus hv hb ho hK:=by
  have hids:∀ i,i ∈ ([0,1,2,3,b]:List Nat)→Ae (Lq g pc hl xt pres q s b) i=true∧Ae own i=false:=fun i hi=>by
   simp only [Vn] at hi
   rcases hi with rfl | rfl | rfl | rfl | rfl
   ·exact ⟨rfl,ho.no Aa⟩
   ·exact ⟨rfl,ho.no Aa⟩
   ·exact ⟨rfl,ho.no Aa⟩
   ·exact ⟨rfl,ho.no Aa⟩
   ·exact ⟨by simp [Lq,Ae],ho.no Aa⟩
  refine CR (E':=Lq g pc hl xt pres q s' b) [0,1,2,3,4,5,6,b] [0,1,2,3,b] hr ?_ Bu (XX hb) ⟨rfl,by omega⟩ hids ?_ (hus _ _ _ rfl) (MQ g pc hl xt pres q s b 7 _ _ _ (fun i hi=>?_) rfl (Eo fun i hi=>ho.no (by have:=DW g pc hl xt pres q s b i hi;omega)) hb) rfl (OH g pc hl xt pres q s b hb) hv (fun i hi=>?_) hK
  ·intro id i h1 h2
   have h:=DW g pc hl xt pres q s 7 id h1
   have:id=0 ∨ id=1 ∨ id=2 ∨ id=3 ∨ id=7:=Aa
   rcases this with rfl | rfl | rfl | rfl | rfl <;> (obtain rfl:=Option.some.inj h2;simp)
  ·intro i hi
   by_cases h5:i ∈ ([0,1,2,3,b]:List Nat)
   ·exact .inl (hids i h5).1
   ·right
    have hj:i=4 ∨ i=5 ∨ (i=6∧7=7):=by
     simp only [Vn] at hi h5
     omega
    refine List.any_eq_true.2 ⟨2,by simp,?_⟩
    rcases hj with rfl | rfl | ⟨rfl,h⟩ <;> first | rfl | omega
  ·have:i=0 ∨ i=1 ∨ i=2 ∨ i=3 ∨ i=4 ∨ i=5 ∨ (i=6∧7=7):=Aa
   rcases this with rfl | rfl | rfl | rfl | rfl | rfl | ⟨rfl,h⟩ <;> first | rfl | omega
  ·rcases DW g pc hl xt pres q s' b i hi with h | h <;> exact ho.no Aa
 fr:=596
 fw:=597
 fp:=595
 mr:=ok.m0
 mw:=ok.m1
 mp:=ok.m2
 rr0 s a hz ha:=by
  obtain ⟨f,l,pre⟩:=s
  have hz:l=[]:=hz
  subst hz
  exact Q4 okA ok f g pc hl xt pre pres q a ha
 rr s a hL ha:=Mo okA ok s.f g pc hl xt s.pre pres q s.l hL a ha
 rw s a v hL ha:=Vc okA ok s.f g pc hl xt s.pre pres q s.l hL a v ha
 rp s h:=by
  have hP:=TM ok okO s.f g pc hl xt s.pre pres q s.l h
  show Af M 595 _ _ _ (Q3 (Ao (At (OP pres s h).1) (Cw (OP pres s h).2.1)) (Lq g pc hl xt pres q (OP pres s h).2.2 7) (8 + 1))
  refine up1 ?_
  unfold OP
  cases hk:Dv h pres with
  | none=>rw [hk] at hP;exact hP
  | some p=>rw [hk] at hP;exact hP
theorem Nm (w:BitVec 64):isI w=true ↔ (AT w≤35∧w >>> 32 &&& 255#64=0#64):=by simp [isI]
theorem I2 {M:Seat} (ok:OkQ M) (I:MemI M) (h:Hd) (s:I.σ) (hz:I.Z s) (hl:h.hl=false) (hpc:¬ 8192#64≤h.pc) (q:Hd × Option Int × I.σ) (hq:nx I.mm h s=q) :
 Af M 241 [h.v,.ifc I.t (.ptr 0 [])] (I.E0 s) I.k0 (Q3 (Ao q.1.v (Cw q.2.1)) (I.E q.2.2 I.k0) (I.k0 + 1)):=by
 obtain ⟨g,pc,hl',xt⟩:=h
 dsimp only at hl hpc
 subst hl
 rw [nx] at hq
 cases he:(I.mm.rd s pc).2.1 with
 | some e =>
   have h0:=Rx ok I g pc xt s hz hpc e he
   dsimp only at hq
   rw [he] at hq
   subst hq
   exact h0
 | none =>
   dsimp only at hq
   rw [he] at hq
   dsimp only at hq
   generalize hw:(I.mm.rd s pc).1=w at hq
   generalize hs:(I.mm.rd s pc).2.2=s1 at hq
   unfold Of at hq
   by_cases q0:isI w=false
   ·rw [if_pos q0] at hq;subst hq
    exact TD ok I g pc xt s hz hpc w hw he s1 hs (fun h=>by rw [(Nm w).2 h] at q0;cases q0)
   rw [if_neg q0] at hq
   obtain ⟨h35,h2⟩:=(Nm w).1 (by simpa using q0)
   by_cases q1:AT w=0
   ·rw [if_pos q1] at hq;subst hq
    exact Ot ok I g pc xt s hz hpc w hw he s1 hs q1 h2
   rw [if_neg q1] at hq
   by_cases q2:AT w < 26
   ·rw [if_pos q2] at hq;subst hq
    exact NQ ok I g pc xt s hz hpc w hw he s1 hs (AT w) Aa Aa rfl h2
   rw [if_neg q2] at hq
   by_cases q3:AT w=26
   ·rw [if_pos q3] at hq;subst hq
    exact Ue ok I g pc xt s hz hpc w hw he s1 hs q3 h2
   rw [if_neg q3] at hq
   by_cases q4:AT w=27 ∨ AT w=28
   ·rw [if_pos q4] at hq
    by_cases q5:8192#64≤g (pF w 48) + BitVec.ofInt 64 (pN w)
    ·rw [if_pos q5] at hq;subst hq
     rcases q4 with q4 | q4
     ·exact QH ok I g pc xt s hz hpc w hw he s1 hs q4 h2 _ rfl q5
     ·exact QP ok I g pc xt s hz hpc w hw he s1 hs q4 h2 _ rfl q5
    rw [if_neg q5] at hq
    by_cases q6:AT w=27
    ·rw [if_pos q6] at hq;subst hq
     dsimp only
     cases he2:(I.mm.rd s1 (g (pF w 48) + BitVec.ofInt 64 (pN w))).2.1 with
     | none=>exact TA ok I g pc xt s hz hpc w hw he s1 hs q6 h2 _ rfl q5 he2
     | some e=>exact Qv ok I g pc xt s hz hpc w hw he s1 hs q6 h2 _ rfl q5 e he2
    ·rw [if_neg q6] at hq;subst hq
     dsimp only
     have q6:AT w=28:=q4.resolve_left q6
     cases he2:(I.mm.wr s1 (g (pF w 48) + BitVec.ofInt 64 (pN w)) (g (pF w 44))).1 with
     | none=>exact UV ok I g pc xt s hz hpc w hw he s1 hs q6 h2 _ rfl q5 he2
     | some e=>exact QB ok I g pc xt s hz hpc w hw he s1 hs q6 h2 _ rfl q5 e he2
   rw [if_neg q4] at hq
   by_cases q7:AT w < 34
   ·rw [if_pos q7] at hq;subst hq
    exact OO ok I g pc xt s hz hpc w hw he s1 hs (AT w) Aa rfl h2
   rw [if_neg q7] at hq
   by_cases q8:AT w=34
   ·dsimp only at hq
    rw [q8] at hq
    by_cases q9:(wi (g (pF w 48)) 8#64 && wi (g (pF w 44)) 4#64)=false
    ·have:MX I.mm 34 ⟨g,pc,false,xt⟩ s1 (g (pF w 48)) (g (pF w 44))=((⟨g,pc,false,xt⟩:Hd).stop Ap,none,s1):=by rw [MX,if_pos];exact q9
     rw [this] at hq;subst hq
     exact Lk ok I g pc xt s hz hpc w hw he s1 hs q8 h2 q9
    ·simp only [Bool.not_eq_false,Bool.and_eq_true] at q9
     exact NP ok I g pc xt s hz hpc w hw he s1 hs q8 h2 q9.1 q9.2 q hq
   ·have q8:AT w=35:=Aa
    dsimp only at hq
    rw [q8] at hq
    by_cases q9:(wi (g (pF w 48)) 4#64 && wi (g (pF w 44)) 8#64)=false
    ·have:MX I.mm 35 ⟨g,pc,false,xt⟩ s1 (g (pF w 48)) (g (pF w 44))=((⟨g,pc,false,xt⟩:Hd).stop Ap,none,s1):=by rw [MX,if_pos];exact q9
     rw [this] at hq;subst hq
     exact L8 ok I g pc xt s hz hpc w hw he s1 hs q8 h2 q9
    ·simp only [Bool.not_eq_false,Bool.and_eq_true] at q9
     exact NR ok I g pc xt s hz hpc w hw he s1 hs q8 h2 q9.1 q9.2 q hq
theorem Om {α:Type} (k:Dg) (x:α):∀ l:List (Dg × α),Dv k (CG k x l)=some x
 | []=>by simp [CG,Dv]
 | (h, y) :: r => by
   by_cases e:k=h
   ·simp [CG,Dv,e]
   ·have:=Om k x r
    simp [CG,Dv,e,this]
def rdL (f:Nat→BitVec 64) (a:BitVec 64):Nat→Nat→List (BitVec 64)
 | 0,_=>[]
 | n + 1,i=>f (a + BitVec.ofNat 64 i).toNat :: rdL f a n (i + 1)
def VU (f:Nat→BitVec 64) (a:BitVec 64):Nat→Nat→List Pf
 | 0,_=>[]
 | n + 1,i=>Bf f (a + BitVec.ofNat 64 i) :: VU f a n (i + 1)
def wrF (a:BitVec 64) (v:Nat→BitVec 64):Nat→Nat→(Nat→BitVec 64)→Nat→BitVec 64
 | 0,_,f=>f
 | n + 1,i,f=>wrF a v n (i + 1) (E9 f (a + BitVec.ofNat 64 i).toNat (v i))
def Wh (a:BitVec 64) (v:Nat→BitVec 64):Nat→Nat→(Nat→BitVec 64)→List Pf
 | 0,_,_=>[]
 | n + 1,i,f=>Bf f (a + BitVec.ofNat 64 i) :: Wh a v n (i + 1) (E9 f (a + BitVec.ofNat 64 i).toNat (v i))
theorem VY (pres:List (Dg × Pr)) (a:BitVec 64):∀ (n i:Nat) (s:Ps) (l:List (BitVec 64)),Jy (Fc pres) a n i s l=(none,⟨s.f,s.l ++ VU s.f a n i,s.pre⟩,l ++ rdL s.f a n i)
 | 0,i,s,l=>by simp [Jy,VU,rdL]
 | n + 1, i, s, l => by
   rw [Jy]
   show Jy (Fc pres) a n (i + 1) ⟨s.f,s.l ++ [Bf s.f (a + BitVec.ofNat 64 i)],s.pre⟩ (l ++ [s.f (a + BitVec.ofNat 64 i).toNat])=_
   rw [VY pres a n (i + 1)]
   simp [VU,rdL]
theorem Rp (a:BitVec 64) (f:Nat→BitVec 64) (rest:List Pf) (pre:Pr):∀ (n i:Nat) (l:List (BitVec 64)),a.toNat + (i + n)≤8192→Jy Ix a n i ⟨Bm f 13 0,VU f a n i ++ rest,pre⟩ l=(none,⟨Bm f 13 0,rest,pre⟩,l ++ rdL f a n i)
 | 0,i,l,_=>by simp [Jy,VU,rdL]
 | n + 1, i, l, h => by
   have ha:=Ql _ (G8 a i Aa)
   have e:(Ix.rd ⟨Bm f 13 0,VU f a (n + 1) i ++ rest,pre⟩ (a + BitVec.ofNat 64 i))=(f (a + BitVec.ofNat 64 i).toNat,none,⟨Bm f 13 0,VU f a n (i + 1) ++ rest,pre⟩):=by
    rw [show Ix.rd=Ve from rfl]
    simp only [VU,List.cons_append,Ve,Bf,EW,Vj,FW f _ ha]
   rw [Jy,e]
   show Jy Ix a n (i + 1) _ _=_
   rw [Rp a f rest pre n (i + 1) _ Aa]
   simp [rdL]
theorem Ri (pres:List (Dg × Pr)) (a:BitVec 64) (v:Nat→BitVec 64):∀ (n i:Nat) (s:Ps),Ph (Fc pres) a v n i s=(none,⟨wrF a v n i s.f,s.l ++ Wh a v n i s.f,s.pre⟩)
 | 0,i,s=>by simp [Ph,wrF,Wh]
 | n + 1, i, s => by
   rw [Ph]
   show Ph (Fc pres) a v n (i + 1) ⟨E9 s.f (a + BitVec.ofNat 64 i).toNat (v i),s.l ++ [Bf s.f (a + BitVec.ofNat 64 i)],s.pre⟩=_
   rw [Ri pres a v n (i + 1)]
   simp [wrF,Wh]
theorem QN (a:BitVec 64) (v:Nat→BitVec 64) (rest:List Pf) (pre:Pr):∀ (n i:Nat) (f:Nat→BitVec 64),a.toNat + (i + n)≤8192→Ph Ix a v n i ⟨Bm f 13 0,Wh a v n i f ++ rest,pre⟩=(none,⟨Bm (wrF a v n i f) 13 0,rest,pre⟩)
 | 0,i,f,_=>by simp [Ph,wrF,Wh]
 | n + 1, i, f, h => by
   have ha:=Ql _ (G8 a i Aa)
   have e:(Ix.wr ⟨Bm f 13 0,Wh a v (n + 1) i f ++ rest,pre⟩ (a + BitVec.ofNat 64 i) (v i))=(none,⟨Bm (E9 f (a + BitVec.ofNat 64 i).toNat (v i)) 13 0,Wh a v n (i + 1) (E9 f (a + BitVec.ofNat 64 i).toNat (v i)) ++ rest,pre⟩):=by
    rw [show Ix.wr=VI from rfl]
    simp only [Wh,List.cons_append,VI,Bf,EW,Vj,FW f _ ha,PH f _ ha]
   rw [Ph,e]
   show Ph Ix a v n (i + 1) _=_
   rw [QN a v rest pre n (i + 1) _ Aa]
   rfl
theorem Ao2 (f:Nat→BitVec 64) (a:BitVec 64):∀ n i j,a.toNat + (i + n)≤8192→j < n→(rdL f a n i).getD j 0#64=f (a.toNat + i + j)
 | n + 1, i, 0, h, _ => by
   have:(a + BitVec.ofNat 64 i).toNat=a.toNat + i:=by rw [BitVec.toNat_add,FT i Aa];omega
   simp [rdL,this]
 | n + 1, i, j + 1, h, hj => by
   have:=Ao2 f a n (i + 1) j Aa Aa
   simp only [rdL,List.getD_cons_succ,this]
   congr 1;omega
theorem Aou (a:BitVec 64) (v:Nat→BitVec 64):∀ n i f j,a.toNat + (i + n)≤8192→wrF a v n i f j=if a.toNat + i≤j∧j < a.toNat + i + n then v (j - a.toNat) else f j
 | 0,i,f,j,_=>by simp only [wrF];rw [if_neg Aa]
 | n + 1, i, f, j, h => by
   have e:(a + BitVec.ofNat 64 i).toNat=a.toNat + i:=by rw [BitVec.toNat_add,FT i Aa];omega
   rw [wrF,Aou a v n (i + 1) _ j Aa,E9,e]
   by_cases h1:j=a.toNat + i
   ·subst h1
    rw [if_neg Aa,if_pos rfl,if_pos Aa]
    congr 1;omega
   ·rw [if_neg h1]
    by_cases h2:a.toNat + (i + 1)≤j∧j < a.toNat + (i + 1) + n
    ·rw [if_pos h2,if_pos Aa]
    ·rw [if_neg h2,if_neg Aa]
def JT (pres:List (Dg × Pr)):Prop:=∀ h p,Dv h pres=some p→B9 p.at=h
theorem Ady {w:BitVec 64} (h:¬ isI w=false):AT w≤35:=((Nm w).1 Jk).1
theorem Aat (pres:List (Dg × Pr)) (hp:JT pres) (h:Hd) (hl:h.hl=false) (hpc:¬ 8192#64≤h.pc) (f:Nat→BitVec 64) (pre0:Pr) (h':Hd) (s':Ps)
 (hn:nx (Fc pres) h ⟨f,[],pre0⟩=(h',none,s')) (rest:List Pf):nx Ix h ⟨Bm f 13 0,s'.l ++ rest,s'.pre⟩=(h',none,⟨Bm s'.f 13 0,rest,s'.pre⟩):=by
 have ha:=Ql _ hpc
 have hk:∀ (f:Nat→BitVec 64) (a:BitVec 64) (r:List Pf) (pre:Pr),a.toNat < 8192→Ix.rd ⟨Bm f 13 0,Bf f a :: r,pre⟩ a=(f a.toNat,none,⟨Bm f 13 0,r,pre⟩):=fun f a r pre ha=>by
  rw [show Ix.rd=Ve from rfl]
  simp only [Ve,Bf,EW,Vj,FW f _ ha]
 have hkw:∀ (f:Nat→BitVec 64) (a v:BitVec 64) (r:List Pf) (pre:Pr),a.toNat < 8192→Ix.wr ⟨Bm f 13 0,Bf f a :: r,pre⟩ a v=(none,⟨Bm (E9 f a.toNat v) 13 0,r,pre⟩):=fun f a v r pre ha=>by
  rw [show Ix.wr=VI from rfl]
  simp only [VI,Bf,EW,Vj,FW f _ ha,PH f _ ha]
 have e0:(Fc pres).rd ⟨f,[],pre0⟩ h.pc=(f h.pc.toNat,none,⟨f,[Bf f h.pc],pre0⟩):=rfl
 rw [nx,e0] at hn
 dsimp only at hn
 have key:∀ ext:List Pf,s'.l=Bf f h.pc :: ext→Of Ix h (f h.pc.toNat) ⟨Bm f 13 0,ext ++ rest,s'.pre⟩=(h',none,⟨Bm s'.f 13 0,rest,s'.pre⟩)→nx Ix h ⟨Bm f 13 0,s'.l ++ rest,s'.pre⟩=(h',none,⟨Bm s'.f 13 0,rest,s'.pre⟩):=fun ext he hx=>by
  rw [nx,he,List.cons_append,hk f h.pc _ _ ha]
  exact hx
 generalize f h.pc.toNat=w at *
 unfold Of at hn
 by_cases q0:isI w=false
 ·rw [if_pos q0] at hn
  simp only [W9] at hn
  obtain ⟨rfl,rfl⟩:=hn
  exact key [] rfl (by rw [Of,if_pos q0];rfl)
 rw [if_neg q0] at hn
 by_cases q1:AT w=0
 ·rw [if_pos q1] at hn
  simp only [W9] at hn
  obtain ⟨rfl,rfl⟩:=hn
  exact key [] rfl (by rw [Of,if_neg q0,if_pos q1];rfl)
 rw [if_neg q1] at hn
 by_cases q2:AT w < 26
 ·rw [if_pos q2] at hn
  simp only [W9] at hn
  obtain ⟨rfl,rfl⟩:=hn
  exact key [] rfl (by rw [Of,if_neg q0,if_neg q1,if_pos q2];rfl)
 rw [if_neg q2] at hn
 by_cases q3:AT w=26
 ·rw [if_pos q3] at hn
  simp only [W9] at hn
  obtain ⟨rfl,rfl⟩:=hn
  exact key [] rfl (by rw [Of,if_neg q0,if_neg q1,if_neg q2,if_pos q3];rfl)
 rw [if_neg q3] at hn
 by_cases q4:AT w=27 ∨ AT w=28
 ·rw [if_pos q4] at hn
  by_cases q5:8192#64≤h.g (pF w 48) + BitVec.ofInt 64 (pN w)
  ·rw [if_pos q5] at hn
   simp only [W9] at hn
   obtain ⟨rfl,rfl⟩:=hn
   exact key [] rfl (by rw [Of,if_neg q0,if_neg q1,if_neg q2,if_neg q3,if_pos q4,if_pos q5];rfl)
  rw [if_neg q5] at hn
  have hb:=Ql _ q5
  by_cases q6:AT w=27
  ·rw [if_pos q6] at hn
   simp only [Fc,prR,W9] at hn
   obtain ⟨rfl,rfl⟩:=hn
   refine key [Bf f _] rfl ?_
   rw [Of,if_neg q0,if_neg q1,if_neg q2,if_neg q3,if_pos q4,if_neg q5,if_pos q6,List.cons_append,List.nil_append,hk f _ _ _ hb]
  ·rw [if_neg q6] at hn
   simp only [Fc,prW,W9] at hn
   obtain ⟨rfl,rfl⟩:=hn
   refine key [Bf f _] rfl ?_
   rw [Of,if_neg q0,if_neg q1,if_neg q2,if_neg q3,if_pos q4,if_neg q5,if_neg q6,List.cons_append,List.nil_append,hkw f _ _ _ _ hb]
 rw [if_neg q4] at hn
 by_cases q7:AT w < 34
 ·rw [if_pos q7] at hn
  simp only [W9] at hn
  obtain ⟨rfl,rfl⟩:=hn
  exact key [] rfl (by rw [Of,if_neg q0,if_neg q1,if_neg q2,if_neg q3,if_neg q4,if_pos q7];rfl)
 rw [if_neg q7] at hn
 have hR:∀ s,Of Ix h w s=MX Ix (AT w) h s (h.g (pF w 48)) (h.g (pF w 44)):=fun s=>by rw [Of,if_neg q0,if_neg q1,if_neg q2,if_neg q3,if_neg q4,if_neg q7]
 generalize h.g (pF w 48)=a at *
 generalize h.g (pF w 44)=b at *
 have hop:=Ady q0
 generalize AT w=op at *
 unfold MX at hn
 by_cases q8:(wi a (if op=35 then 4#64 else 8#64) && wi b (if op=35 then 8#64 else 4#64))=false
 ·rw [if_pos q8] at hn
  simp only [W9] at hn
  obtain ⟨rfl,rfl⟩:=hn
  exact key [] rfl (by rw [hR,MX,if_pos q8];rfl)
 rw [if_neg q8] at hn
 simp only [Bool.not_eq_false,Bool.and_eq_true] at q8
 have ha':=B8 q8.1
 have hb':=B8 q8.2
 have q8':¬ (wi a (if op=35 then 4#64 else 8#64) && wi b (if op=35 then 8#64 else 4#64))=false:=by simp [q8]
 have hO:∀ (s:Ck) (r:List (BitVec 64)) (c:Ck),Jy Ix a (if op=35 then 4 else 8) 0 s []=(none,c,r)→MX Ix op h s a b=(if op=34 then GL Ix h c b 4 (B9 (Pr.mk' (CS r)).at).at else QC Ix h c b (Dg.mk' (CS r))):=fun s r c hr=>by
  rw [MX,if_neg q8',hr]
 rw [VY] at hn
 rcases (show op=34 ∨ op=35 by omega) with rfl | rfl
 ·have ha':a.toNat + 8≤8192:=ha'
  have hb':b.toNat + 4≤8192:=hb'
  have e8:(if (34:Nat)=35 then 4 else 8)=8:=rfl
  rw [e8] at hn hO
  dsimp only at hn
  rw [if_pos rfl,GL,Ri] at hn
  simp only [W9,List.nil_append] at hn
  obtain ⟨rfl,rfl⟩:=hn
  refine key (VU f a 8 0 ++ Wh b (Vh (B9 (Pr.mk' (CS (rdL f a 8 0))).at).at) 4 0 f) Bu ?_
  rw [hR,List.append_assoc,hO _ _ _ (Rp a f _ _ 8 0 [] Aa),if_pos rfl,GL,List.nil_append,QN b _ rest _ 4 0 f Aa]
 ·have ha':a.toNat + 4≤8192:=ha'
  have hb':b.toNat + 8≤8192:=hb'
  have e8:(if (35:Nat)=35 then 4 else 8)=4:=rfl
  rw [e8] at hn hO
  dsimp only at hn
  have n34:¬ (35:Nat)=34:=Aa
  rw [if_neg n34,QC,show (Fc pres).pi=OP pres from rfl,OP,List.nil_append] at hn
  cases hk':Dv (Dg.mk' (CS (rdL f a 4 0))) pres with
  | none=>rw [hk'] at hn;simp at hn
  | some p =>
    rw [hk'] at hn
    dsimp only at hn
    rw [GL,Ri] at hn
    simp only [W9] at hn
    obtain ⟨rfl,rfl⟩:=hn
    have hs:=hp _ _ hk'
    refine key (VU f a 4 0 ++ Wh b (Vh p.at) 8 0 f) Bu ?_
    rw [hR,List.append_assoc,hO _ _ _ (Rp a f _ _ 4 0 [] Aa),if_neg n34,QC,show Ix.pi=ckP from rfl,ckP,List.nil_append,if_pos hs]
    dsimp only
    rw [GL,QN b _ rest _ 8 0 f Aa]
end Mv
