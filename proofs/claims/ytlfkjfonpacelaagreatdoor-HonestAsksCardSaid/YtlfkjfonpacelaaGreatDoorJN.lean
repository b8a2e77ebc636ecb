/- A part. -/
import Derived.Test.YtlfkjfonpacelaaGreatDoorJM
set_option linter.all false
set_option maxRecDepth 20000
set_option maxHeartbeats 4000000
namespace Mv
open Go
variable {M:Seat}
def Gj (pres:List (Dg × Pr)) (sl:List (Dg × Bool)) (nq:Nat) (qq:Nat→Dg) (lv:V) (pre:Pr):V:=.st 67 (.fcons 0 (.ptr 1 []) (.fcons 1 (.imm (Dt pres 2 sl nq qq)) (.fcons 2 lv (.fcons 3 (AL pre) .fnil))))
theorem SK (okA:OkM M) (ok:OkPr M) (f g:Nat→BitVec 64) (pc:BitVec 64) (hl:Bool) (xt:BitVec 64) (pre:Pr) (pres:List (Dg × Pr)) (sl:List (Dg × Bool)) (nq:Nat) (qq:Nat→Dg) (a:BitVec 64) (ha:¬ 8192#64≤a) :
 Ae M 596 [.ptr 0 [],W a] [(0,Gj pres sl nq qq .nils pre),(1,mach f g pc hl xt)] 3
  (Q3 (Ai (W (f a.toNat)) .nili) [(0,Gj pres sl nq qq (.sl 3 [] 0 1 2) pre),(1,mach f g pc hl xt),(3,.ar 2 1 (Ff [BD f a]))] 4):=by
 refine Ab ok.k596 rfl fun x hx=>?_;refine eX ?_;simp only [YY,Ab5,Gj,LZ,seval];have zz:=AY @m9 @c7;refine Jp (F1 okA f g pc hl xt a.toNat (pfl a ha)) ?_;simp only [Bb,seval];refine Ap.mk hx [0,1,2,499] [115] (Ai (W (f a.toNat)) .nili) [(0,Gj pres sl nq qq (.sl 3 [] 0 1 2) pre),(1,mach f g pc hl xt),(3,.ar 2 1 (Ff [BD f a]))] 4 Al (by (simp only [Di,seval])) (by (simp only [KR,seval])) ?_ ⟨rfl,rfl,rfl⟩;simp only [Gj,Dt,AT,Bs,BI,seval,Jb];intro i hi;obtain rfl:i=0:=Aa;exact I1 f a Ca rfl
theorem NQ (okA:OkM M) (ok:OkPr M) (f g:Nat→BitVec 64) (pc:BitVec 64) (hl:Bool) (xt:BitVec 64) (pre:Pr) (pres:List (Dg × Pr)) (sl:List (Dg × Bool)) (nq:Nat) (qq:Nat→Dg) (l:List Pf) (hL:l.length≤100) (a:BitVec 64) (ha:¬ 8192#64≤a) :
 Ae M 596 [.ptr 0 [],W a] [(0,Gj pres sl nq qq (.sl 3 [] 0 l.length 2) pre),(1,mach f g pc hl xt),(3,.ar 2 l.length (Ff l))] 4
  (Q3 (Ai (W (f a.toNat)) .nili) [(0,Gj pres sl nq qq (.sl 4 [] 0 (l ++ [BD f a]).length 2) pre),(1,mach f g pc hl xt),(4,.ar 2 (l ++ [BD f a]).length (Ff (l ++ [BD f a])))] (4 + 1)):=by
 refine Ab ok.k596 rfl fun x hx=>?_;refine eX ?_;simp only [YY,Ab5,Gj,LZ,seval];have zz:=Cv @m9 @c7 @BW;refine Jp (F1 okA f g pc hl xt a.toNat (pfl a ha)) ?_;simp only [Bb,seval];repeat refine sd ?_
 refine Ap.mk hx [0,1,2,3,500] [116] (Ai (W (f a.toNat)) .nili) [(0,Gj pres sl nq qq (.sl 4 [] 0 (l ++ [BD f a]).length 2) pre),(1,mach f g pc hl xt),(4,.ar 2 (l ++ [BD f a]).length (Ff (l ++ [BD f a])))] 5 Al (by (simp only [Di,seval])) (by (simp only [KR,seval])) ?_ ⟨rfl,rfl,rfl⟩;have e0:(l ++ [BD f a]).length=l.length + 1:=B9;simp only [e0,Gj,Dt,AT,Bs,BI,seval,Jb];intro i hi;by_cases h:i < l.length
 ·rw [if_pos h];have:Ff (l ++ [BD f a]) i=Ff l i:=by simp only [Ff,List.getD_eq_getElem?_getD,List.getElem?_append_left h]
  rw [this];exact (BW _ _ _ _ _).mpr trivial
 ·obtain rfl:i=l.length:=Aa;have:Ff (l ++ [BD f a]) l.length=Kj (BD f a):=by simp only [Ff,List.getD_eq_getElem?_getD,List.getElem?_append_right (Nat.le_refl _),Nat.sub_self];rfl
  rw [if_neg h,Nat.sub_self,if_pos rfl,this];exact I1 f a Ca rfl
theorem Wp (okA:OkM M) (ok:OkPr M) (f g:Nat→BitVec 64) (pc:BitVec 64) (hl:Bool) (xt:BitVec 64) (pre:Pr) (pres:List (Dg × Pr)) (sl:List (Dg × Bool)) (nq:Nat) (qq:Nat→Dg) (l:List Pf) (hL:l.length≤100) (a v:BitVec 64) (ha:¬ 8192#64≤a) :
 Ae M 597 [.ptr 0 [],W a,W v] [(0,Gj pres sl nq qq (.sl 3 [] 0 l.length 2) pre),(1,mach f g pc hl xt),(3,.ar 2 l.length (Ff l))] 4
  (Q3 .nili [(0,Gj pres sl nq qq (.sl 4 [] 0 (l ++ [BD f a]).length 2) pre),(1,mach (JB f a.toNat v) g pc hl xt),(4,.ar 2 (l ++ [BD f a]).length (Ff (l ++ [BD f a])))] (4 + 1)):=by
 refine Ab ok.k597 rfl fun x hx=>?_;have ha':=pfl a ha;have hR:=NQ okA ok f g pc hl xt pre pres sl nq qq l hL a ha;generalize l ++ [BD f a]=l' at *
 refine eX ?_;simp only [Amj,Akk,LZ,seval];have zz:=Gb @Gj.eq_1 @j9 @AT @Bs @c7 Jq;refine By [0,1,2,3] [0,1,3] (hR) ?_;simp only [Je,Gj,Dt,E9,FJ,mach,seval];repeat refine sd ?_
 have zz:=Em UR Jq @j9 @AT @Bs;exact AI hx [0,1,2,3,52] ⟨rfl,rfl,rfl⟩
theorem Wt {M:Seat} (ok:OkPr M) (okO:OkO M) (f g:Nat→BitVec 64) (pc:BitVec 64) (hl:Bool) (xt:BitVec 64) (pre:Pr) (pres:List (Dg × Pr)) (sl:List (Dg × Bool)) (nq:Nat) (qq:Nat→Dg) (l:List Pf) (h:Dg) :
 Ae M 595 [.ptr 0 [],dg h] [(0,Gj pres sl nq qq (.sl 3 [] 0 l.length 2) pre),(1,mach f g pc hl xt),(3,.ar 2 l.length (Ff l))] 4
  (Q3 (pgR (En h pres)) [(0,Gj pres sl nq qq (.sl 3 [] 0 l.length 2) (pgP (En h pres))),(1,mach f g pc hl xt),(3,.ar 2 l.length (Ff l))] 4):=by
 refine Ab ok.k595 rfl fun x hx=>?_;have hC:=JM ok pres sl nq qq;have hG:=Nl okO pres h;refine eX ?_;simp only [An1,An4,Gj,LZ,seval];have zz:=D0 @j9 @AT @Bs @Cg;refine G6 [2] [] (hC) ?_;simp only [A3,Bn,seval];cases ho:En h pres with
 | none =>
   rw [ho] at hG;simp only [DU] at hG;have zz:=AY @Bf @Cg;refine G6 [324,325,2,326] [324,325,326] (hG) ?_;simp only [Cz,Vu,seval];have zz:=FG @pgR.eq_1 @pgR.eq_2 @pgP.eq_1 @pgP.eq_2 @HZ Jq @j9 @AT @Bs Lc3 @LM;exact AI hx [0,1,2,3] ⟨rfl,rfl,rfl⟩
 | some p =>
   rw [ho] at hG;simp only [DU] at hG;have zz:=AY @Bf @Cg;refine G6 [324,325,2,326] [324,325,326] (hG) ?_;simp only [Cz,Vu,seval];have zz:=T5 @pgR.eq_1 @pgR.eq_2 @pgP.eq_1 @pgP.eq_2 @HZ Jq @j9 @AT @Bs @LM;exact AI hx [0,1,2,3] ⟨rfl,rfl,rfl⟩
def L7 (g:Nat→BitVec 64) (pc:BitVec 64) (hl:Bool) (xt:BitVec 64) (pres:List (Dg × Pr)) (sl:List (Dg × Bool)) (nq:Nat) (qq:Nat→Dg) (s:Ps) (b:Nat):Hp :=
 [(0,Gj pres sl nq qq (.sl b [] 0 s.l.length 2) s.pre),(1,mach s.f g pc hl xt),(b,.ar 2 s.l.length (Ff s.l))]
def pZF (g:Nat→BitVec 64) (pc:BitVec 64) (hl:Bool) (xt:BitVec 64) (pres:List (Dg × Pr)) (sl:List (Dg × Bool)) (nq:Nat) (qq:Nat→Dg) (s:Ps):Hp :=
 [(0,Gj pres sl nq qq .nils s.pre),(1,mach s.f g pc hl xt)]
theorem O9 (g:Nat→BitVec 64) (pc:BitVec 64) (hl:Bool) (xt:BitVec 64) (pres:List (Dg × Pr)) (sl:List (Dg × Bool)) (nq:Nat) (qq:Nat→Dg) (s:Ps) (b b':Nat) (H:Hp) (m z:List Nat) (hm:∀ i,i < 3→m[i]?=some i) (hb:m[b']?=some b)
 (hH:∀ i,Ag (L7 g pc hl xt pres sl nq qq s b) i=true→Ag H i=true∧hget H i=hget (L7 g pc hl xt pres sl nq qq s b) i) (hk:3≤b):BC H m z (L7 g pc hl xt pres sl nq qq s b'):=by
 have n0:¬ 0=b:=Aa;have n1:¬ 1=b:=Aa;have h0:=hH 0 rfl;have h1:=hH 1 rfl;have h4:=hH b (by simp [L7,Ag]);have g4:hget (L7 g pc hl xt pres sl nq qq s b) b = .ar 2 s.l.length (Ff s.l):=by simp only [L7,hget,n0,n1,B4]
 rw [g4] at h4;simp only [L7,hget,if_true,seval] at h0 h1;simp only [L7,BC,hm 0 Aa,hm 1 Aa,hb,h0,h1,h4,Jb];refine ⟨?_,DA ..,?_⟩
 ·simp only [Gj,Dt,Ay,hm 1 Aa,hm 2 Aa,hb,Jb,DX,AT,Bs];exact fun i _=>(AJ _ _ _ _ _).mpr rfl
 ·simp only [Ay,true_and];exact fun i _=>(BW H m z s.l i).mpr trivial
theorem Us (g:Nat→BitVec 64) (pc:BitVec 64) (hl:Bool) (xt:BitVec 64) (pres:List (Dg × Pr)) (sl:List (Dg × Bool)) (nq:Nat) (qq:Nat→Dg) (s:Ps) (H:Hp) (m z:List Nat) (hm:∀ i,i < 3→m[i]?=some i)
 (hH:∀ i,Ag (pZF g pc hl xt pres sl nq qq s) i=true→Ag H i=true∧hget H i=hget (pZF g pc hl xt pres sl nq qq s) i):BC H m z (pZF g pc hl xt pres sl nq qq s):=by
 have h0:=hH 0 rfl;have h1:=hH 1 rfl;simp only [pZF,hget,if_true,seval] at h0 h1;simp only [pZF,BC,hm 0 Aa,hm 1 Aa,h0,h1,Jb];refine ⟨?_,DA ..⟩
 ·simp only [Gj,Dt,Ay,hm 1 Aa,hm 2 Aa,Jb,DX,AT,Bs];exact fun i _=>(AJ _ _ _ _ _).mpr rfl
theorem EX (g:Nat→BitVec 64) (pc:BitVec 64) (hl:Bool) (xt:BitVec 64) (pres:List (Dg × Pr)) (sl:List (Dg × Bool)) (nq:Nat) (qq:Nat→Dg) (s:Ps) (b i:Nat) (h:Ag (L7 g pc hl xt pres sl nq qq s b) i=true):i < 2 ∨ i=b:=by
 simp only [L7,Rr,beq_iff_eq,Bool.or_false] at h;omega
theorem OV (g:Nat→BitVec 64) (pc:BitVec 64) (hl:Bool) (xt:BitVec 64) (pres:List (Dg × Pr)) (sl:List (Dg × Bool)) (nq:Nat) (qq:Nat→Dg) (s:Ps) (i:Nat) (h:Ag (pZF g pc hl xt pres sl nq qq s) i=true):i < 2:=by
 simp only [pZF,Rr,beq_iff_eq,Bool.or_false] at h;omega
theorem Qm (g:Nat→BitVec 64) (pc:BitVec 64) (hl:Bool) (xt:BitVec 64) (pres:List (Dg × Pr)) (sl:List (Dg × Bool)) (nq:Nat) (qq:Nat→Dg) (s:Ps) (b:Nat) (hb:3≤b):AB (L7 g pc hl xt pres sl nq qq s b) [0,1,b]=[]:=by
 have n0:¬ b=0:=Aa;have n1:¬ b=1:=Aa;have n0':¬ 0=b:=Aa;have n1':¬ 1=b:=Aa;simp only [AB,L7,BZ,n0,n1,n0',n1',B4,seval]
theorem Acs {b:Nat} (hb:3≤b):([0,1,2,b]:List Nat).Nodup:=by
 rw [show ([0,1,2,b]:List Nat)=[0,1,2] ++ [b] from rfl,List.nodup_append];refine ⟨by decide,by simp,fun a ha c hc=>?_⟩;simp only [XA] at ha hc;omega
def Aoc {M:Seat} (okA:OkM M) (okO:OkO M) (ok:OkPr M) (g:Nat→BitVec 64) (pc:BitVec 64) (hl:Bool) (xt:BitVec 64) (pres:List (Dg × Pr)) (sl:List (Dg × Bool)) (nq:Nat) (qq:Nat→Dg):MemI M where
 σ:=Ps
 t:=422
 ht:=.inl rfl
 k0:=3
 kk:=4
 hk:=Aa
 E s b:=L7 g pc hl xt pres sl nq qq s b
 E0 s:=pZF g pc hl xt pres sl nq qq s
 mm:=Ks pres
 Z s:=s.l=[]
 len s:=s.l.length
 lr s a:=by simp [Ks,prR]
 lw s a v:=by simp [Ks,prW]
 lp s h:=Apb
 lz s h:=by simp [h]
 hids s b i h:=by rcases EX g pc hl xt pres sl nq qq s b i h with h | h <;> omega
 hids0 s i h:=by have:=OV g pc hl xt pres sl nq qq s i h;omega
 sim0 s H m z hm hH:=Us g pc hl xt pres sl nq qq s H m z hm hH
 simE s b b' H m z hk hm hb hH:=O9 g pc hl xt pres sl nq qq s b b' H m z hm hb hH hk
 c0 {f us us' v s s'} own {n K} hr hus hv ho hK:=by
  refine D5 (E':=L7 g pc hl xt pres sl nq qq s' n) [0,1,2] [0,1] hr ?_ B9 Al ⟨rfl,by omega⟩ (fun i hi=>?_) ?_ (hus _ _ _ rfl) (Us g pc hl xt pres sl nq qq s _ _ _ (fun i hi=>?_) (Ft fun i hi=>ho.no (by have:=OV g pc hl xt pres sl nq qq s i hi;omega))) rfl rfl hv (fun i hi=>?_) hK
  ·intro id i h1 h2;have h:=OV g pc hl xt pres sl nq qq s id h1;have:id=0 ∨ id=1:=Aa;rcases this with rfl | rfl <;> (obtain rfl:=Option.some.inj h2;simp)
  ·simp only [XA] at hi;rcases hi with rfl | rfl <;> exact ⟨rfl,ho.no Aa⟩
  ·exact fun i hi=>by
    have h:([0,1,2]:List Nat).all (fun i=>Ag (pZF g pc hl xt pres sl nq qq s) i || HK [0,1] (pZF g pc hl xt pres sl nq qq s) i)=true:=Ca;have:=List.all_eq_true.1 h i hi;simpa using this
  ·have:i=0 ∨ i=1 ∨ i=2:=Aa;rcases this with rfl | rfl | rfl <;> rfl
  ·rcases EX g pc hl xt pres sl nq qq s' n i hi with h | h <;> exact ho.no Aa
 ck {f us us' v s s' b} own {n K} hr hus hv hb ho hK:=by
  have hids:∀ i,i ∈ ([0,1,b]:List Nat)→Ag (L7 g pc hl xt pres sl nq qq s b) i=true∧Ag own i=false:=fun i hi=>by
   simp only [XA] at hi;rcases hi with rfl | rfl | rfl
   ·exact ⟨rfl,ho.no Aa⟩
   ·exact ⟨rfl,ho.no Aa⟩
   ·exact ⟨by simp [L7,Ag],ho.no Aa⟩
  refine D5 (E':=L7 g pc hl xt pres sl nq qq s' n) [0,1,2,b] [0,1,b] hr ?_ B9 (Acs hb) ⟨rfl,by omega⟩ hids ?_ (hus _ _ _ rfl) (O9 g pc hl xt pres sl nq qq s b 3 _ _ _ (fun i hi=>?_) rfl (Ft fun i hi=>ho.no (by have:=EX g pc hl xt pres sl nq qq s b i hi;omega)) hb) rfl (Qm g pc hl xt pres sl nq qq s b hb) hv (fun i hi=>?_) hK
  ·intro id i h1 h2;have h:=EX g pc hl xt pres sl nq qq s 3 id h1;have:id=0 ∨ id=1 ∨ id=3:=Aa;rcases this with rfl | rfl | rfl <;> (obtain rfl:=Option.some.inj h2;simp)
  ·intro i hi;by_cases h5:i ∈ ([0,1,b]:List Nat)
   ·exact .inl (hids i h5).1
   ·right;have hj:i=2:=by
     simp only [XA] at hi h5;omega
    refine List.any_eq_true.2 ⟨0,by simp,?_⟩;subst hj;simp [L7,Ag,hget,Gj,Dt,EI,V.solid,AL]
  ·have:i=0 ∨ i=1 ∨ i=2:=Aa;rcases this with rfl | rfl | rfl <;> rfl
  ·rcases EX g pc hl xt pres sl nq qq s' n i hi with h | h <;> exact ho.no Aa
 cu {f us us' v s s' b} own {n K} hr hus hv hb ho hK:=by
  have hids:∀ i,i ∈ ([0,1,b]:List Nat)→Ag (L7 g pc hl xt pres sl nq qq s b) i=true∧Ag own i=false:=fun i hi=>by
   simp only [XA] at hi;rcases hi with rfl | rfl | rfl
   ·exact ⟨rfl,ho.no Aa⟩
   ·exact ⟨rfl,ho.no Aa⟩
   ·exact ⟨by simp [L7,Ag],ho.no Aa⟩
  refine D5 (E':=L7 g pc hl xt pres sl nq qq s' b) [0,1,2,b] [0,1,b] hr ?_ B9 (Acs hb) ⟨rfl,by omega⟩ hids ?_ (hus _ _ _ rfl) (O9 g pc hl xt pres sl nq qq s b 3 _ _ _ (fun i hi=>?_) rfl (Ft fun i hi=>ho.no (by have:=EX g pc hl xt pres sl nq qq s b i hi;omega)) hb) rfl (Qm g pc hl xt pres sl nq qq s b hb) hv (fun i hi=>?_) hK
  ·intro id i h1 h2;have h:=EX g pc hl xt pres sl nq qq s 3 id h1;have:id=0 ∨ id=1 ∨ id=3:=Aa;rcases this with rfl | rfl | rfl <;> (obtain rfl:=Option.some.inj h2;simp)
  ·intro i hi;by_cases h5:i ∈ ([0,1,b]:List Nat)
   ·exact .inl (hids i h5).1
   ·right;have hj:i=2:=by
     simp only [XA] at hi h5;omega
    refine List.any_eq_true.2 ⟨0,by simp,?_⟩;subst hj;simp [L7,Ag,hget,Gj,Dt,EI,V.solid,AL]
  ·have:i=0 ∨ i=1 ∨ i=2:=Aa;rcases this with rfl | rfl | rfl <;> rfl
  ·rcases EX g pc hl xt pres sl nq qq s' b i hi with h | h <;> exact ho.no Aa
 fr:=596
 fw:=597
 fp:=595
 mr:=ok.m0
 mw:=ok.m1
 mp:=ok.m2
 rr0 s a hz ha:=by
  obtain ⟨f,l,pre⟩:=s;have hz:l=[]:=hz;subst hz;exact SK okA ok f g pc hl xt pre pres sl nq qq a ha
 rr s a hL ha:=NQ okA ok s.f g pc hl xt s.pre pres sl nq qq s.l hL a ha
 rw s a v hL ha:=Wp okA ok s.f g pc hl xt s.pre pres sl nq qq s.l hL a v ha
 rp s h:=by
  have hP:=Wt ok okO s.f g pc hl xt s.pre pres sl nq qq s.l h;show Ae M 595 _ _ _ (Q3 (Ai (AL (WX pres s h).1) (Cn (WX pres s h).2.1)) (L7 g pc hl xt pres sl nq qq (WX pres s h).2.2 3) (4 + 1));refine up1 ?_;unfold WX;cases hk:En h pres with
  | none=>rw [hk] at hP;exact hP
  | some p=>rw [hk] at hP;exact hP
variable {M:Seat}
theorem S7 (ok:OkOs M) (f g:Nat→BitVec 64) (pc xt:BitVec 64) (pres:List (Dg × Pr)) (sl:List (Dg × Bool)) (nq:Nat) (qq:Nat→Dg) :
 Ae M 97 [.imm (mach f g pc true xt),.imm (Dt pres 0 sl nq qq)] [] 1
  (Q3 (P7 ⟨f,g,pc,true,xt⟩ none [] Pr.zero) [] 1):=by
 refine Ab ok.k97 rfl fun x hx=>?_;have hN:Ae M 241 [Ba g pc true xt,.ifc 422 (.ptr 0 [])] [(0,Gj pres sl nq qq .nils Pr.zero),(1,mach f g pc true xt)] 3 (Q3 (Ai (Ba g pc true xt) .nili) [(0,Gj pres sl nq qq .nils Pr.zero),(1,mach f g pc true xt)] (3 + 1)) :=
  IX ok.q (Aoc ok.q.okA ok.q.ok ok.p g pc true xt pres sl nq qq) g pc xt ⟨f,[],Pr.zero⟩
 refine eX ?_;simp only [f97,c97,LZ,seval];have zz:=@c7;refine Jp (CX ok.q.okA f g pc true xt) ?_;simp only [Be,Vu,LZ,seval];have zz:=AY @c7 @f8;refine Dh (Dz ok.d f g pc true xt) ?_;simp only [Bb,Ba,seval];have zz:=AY @c7 @b7;refine Dh (DM ok.q.okA f g pc true xt) ?_;simp only [Bb,seval];have zz:=Gb @Gj.eq_1 @j9 @AT @Bs @f8 @Cg;refine By [193,145,0] [193,145] (hN) ?_;simp only [Cz,Gj,Dt,E9,FJ,Ba,Be,seval];have zz:=Em Lbm Qu @b7 @List.length_nil.{0} @LM;exact AI hx [0] ⟨rfl,rfl,rfl⟩
theorem R6 (ok:OkOs M) (f g:Nat→BitVec 64) (pc xt:BitVec 64) (hpc:8192#64≤pc) (pres:List (Dg × Pr)) (sl:List (Dg × Bool)) (nq:Nat) (qq:Nat→Dg) :
 Ae M 97 [.imm (mach f g pc false xt),.imm (Dt pres 0 sl nq qq)] [] 1
  (Q3 (P7 ⟨f,g,pc,false,xt⟩ none [] Pr.zero) [] 1):=by
 refine Ab ok.k97 rfl fun x hx=>?_;have hN:Ae M 241 [Ba g pc false xt,.ifc 422 (.ptr 0 [])] [(0,Gj pres sl nq qq .nils Pr.zero),(1,mach f g pc false xt)] 3 (Q3 (Ai (Ba g pc true AD) .nili) [(0,Gj pres sl nq qq .nils Pr.zero),(1,mach f g pc false xt)] (3 + 1)) :=
  H8 ok.q (Aoc ok.q.okA ok.q.ok ok.p g pc false xt pres sl nq qq) g pc xt ⟨f,[],Pr.zero⟩ hpc
 refine eX ?_;simp only [f97,c97,LZ,seval];have zz:=@c7;refine Jp (CX ok.q.okA f g pc false xt) ?_;simp only [Be,Vu,LZ,seval];have zz:=AY @c7 @f8;refine Dh (Dz ok.d f g pc false xt) ?_;simp only [Bb,Ba,seval];have zz:=AY @c7 @b7;refine Dh (DM ok.q.okA f g pc false xt) ?_;simp only [Bb,seval];have zz:=Gb @Gj.eq_1 @j9 @AT @Bs @f8 @Cg;refine By [193,145,0] [193,145] (hN) ?_;simp only [Cz,Gj,Dt,E9,FJ,Ba,Be,seval];have zz:=Em Lbm Qu @b7 @List.length_nil.{0} @LM;exact AI hx [0] ⟨rfl,rfl,rfl⟩
theorem W8 (ok:OkOs M) (f g:Nat→BitVec 64) (pc xt:BitVec 64) (hpc:¬ 8192#64≤pc) (pres:List (Dg × Pr)) (sl:List (Dg × Bool)) (nq:Nat) (qq:Nat→Dg) (h1:Hd) (e:Option Int) (s1:Ps) (hq:nx (Ks pres) ⟨g,pc,false,xt⟩ ⟨f,[],Pr.zero⟩=(h1,e,s1)) :
 Ae M 97 [.imm (mach f g pc false xt),.imm (Dt pres 0 sl nq qq)] [] 1
  (Q3 (P7 ⟨f,g,pc,false,xt⟩ e s1.l s1.pre) [] 1):=by
 refine Ab ok.k97 rfl fun x hx=>?_;obtain ⟨g1,pc1,hl1,xt1⟩:=h1;obtain ⟨f1,l1,pre1⟩:=s1;have hN:Ae M 241 [Ba g pc false xt,.ifc 422 (.ptr 0 [])] [(0,Gj pres sl nq qq .nils Pr.zero),(1,mach f g pc false xt)] 3 (Q3 (Ai (Ba g1 pc1 hl1 xt1) (Cn e)) [(0,Gj pres sl nq qq (.sl 3 [] 0 l1.length 2) pre1),(1,mach f1 g pc false xt),(3,.ar 2 l1.length (Ff l1))] (3 + 1)) :=
  J3 ok.q (Aoc ok.q.okA ok.q.ok ok.p g pc false xt pres sl nq qq) ⟨g,pc,false,xt⟩ ⟨f,[],Pr.zero⟩ rfl rfl hpc _ hq
 refine eX ?_;simp only [f97,c97,LZ,seval];have zz:=@c7;refine Jp (CX ok.q.okA f g pc false xt) ?_;simp only [Be,Vu,LZ,seval];have zz:=AY @c7 @f8;refine Dh (Dz ok.d f g pc false xt) ?_;simp only [Bb,Ba,seval];have zz:=AY @c7 @b7;refine Dh (DM ok.q.okA f g pc false xt) ?_;simp only [Bb,seval];cases e with
 | none =>
   have zz:=Gb @Gj.eq_1 @j9 @AT @Bs @f8 @Cg;refine By [193,145,0] [193,145] (hN) ?_;simp only [Je,Gj,Dt,E9,FJ,Ba,BS,Be,seval];refine Ap.mk hx [0] [529] (P7 ⟨f,g,pc,false,xt⟩ none l1 pre1) [] 1 Al (by (simp only [LV,Bn,seval])) ?_ ?_ ⟨rfl,rfl,rfl⟩
   ·simp only [LV,Lbm,Cz,dg,BI,seval];refine ⟨by rfl,fun i hi=>?_⟩;try rw [Nat.zero_add]
    exact Px _ _ _ _
   ·trivial
 | some en =>
   have zz:=Gb @Gj.eq_1 @j9 @AT @Bs @f8 @Cg;refine By [193,145,0] [193,145] (hN) ?_;simp only [Je,Gj,Dt,E9,FJ,Ba,AA,Be,Vu,seval];have zz:=Em Lbm Qu Lbc @List.length_nil.{0} @LM;exact AI hx [0] ⟨rfl,rfl,rfl⟩
theorem WQ (ok:OkOs M) (m:Mc) (pres:List (Dg × Pr)) (sl:List (Dg × Bool)) (nq:Nat) (qq:Nat→Dg) :
 Ae M 97 [.imm (mach m.f m.g m.pc m.hl m.xt),.imm (Dt pres 0 sl nq qq)] [] 1
  (Q3 (P7 m (CJ pres m).1 (CJ pres m).2.1 (CJ pres m).2.2) [] 1):=by
 obtain ⟨f,g,pc,hl,xt⟩:=m;unfold CJ;cases hl with
 | true=>rw [if_pos rfl];exact S7 ok f g pc xt pres sl nq qq
 | false =>
   rw [if_neg B9];by_cases hpc:8192#64≤pc
   ·rw [if_pos hpc];exact R6 ok f g pc xt hpc pres sl nq qq
   ·rw [if_neg hpc];generalize hq:nx (Ks pres) (⟨f,g,pc,false,xt⟩:Mc).h ⟨f,[],Pr.zero⟩=r;obtain ⟨h1,e,s1⟩:=r;exact W8 ok f g pc xt hpc pres sl nq qq h1 e s1 hq
structure Pt where
 a:BitVec 64
 m:Mc
 p:List (Dg × Pr)
 sl:List (Dg × Bool)
 n:Nat
 q:Nat→Dg
def C5 (K:Nat) (P:Pt):V:=.st 3 (.fcons 0 (W P.a) (.fcons 1 (.imm (mach P.m.f P.m.g P.m.pc P.m.hl P.m.xt)) (.fcons 2 (.imm (Dt P.p K P.sl P.n P.q)) .fnil)))
theorem Kx (K K':Nat) (m:List Nat) (h:m[K]?=some K') (P:Pt):(C5 K P).ren m=C5 K' P:=by
 simp only [C5,Dt,V.ren,h,E9,FJ,Be,W,dg,B]
theorem Ea (H:Hp) (m z:List Nat) (K K':Nat) (h:m[K]?=some K') (P:Pt):Ay H m z (C5 K P) (C5 K' P):=by
 simp only [C5,Dt,Ay,h,AT,Bs,DA,W,and_self,Jb];exact fun i _=>(AJ _ _ _ _ _).mpr rfl
theorem Ob (K:Nat) (P:Pt):(C5 K P).solid=true:=rfl
theorem PW (K:Nat) (P:Pt):(C5 K P).size=3:=rfl
theorem V3 (K:Nat) (P:Pt):(C5 K P).isAgg=true:=rfl
def bi (ps:Nat→Pt) (s:BitVec 64):Nat→Nat
 | 0=>0
 | i + 1=>if (ps i).a≤s∧(ps (bi ps s i)).a < (ps i).a then i else bi ps s i
theorem Ig (ps:Nat→Pt) (s:BitVec 64) (n:Nat) (hn:0 < n):∀ i,i≤n→bi ps s i < n
 | 0,_=>hn
 | i + 1, h => by
   rw [bi];split
   ·omega
   ·exact Ig ps s n hn i Aa
theorem QO (ps:Nat→Pt) (s:BitVec 64) (h0:(ps 0).a≤s):∀ i,(ps (bi ps s i)).a≤s
 | 0=>h0
 | i + 1 => by
   rw [bi];split
   ·rename_i h;exact h.1
   ·exact QO ps s h0 i
def tH (n:Nat) (ps:Nat→Pt) (d:Int) (w:WS):Hp:=[(0,Aw (.sl 2 [] 0 n 3) d (.map 3) (.map 1)),(2,.ar 3 n fun j=>C5 4 (ps j)),(4,Aq 5 w.a w.b w.met),(5,BG AL Pr.zero w.ever)]
structure OkRc (M:Seat):Prop where
 o:OkHo M
 t:OkT M
 p:OkPr M
 k275:Ar M 275 Rp=true
theorem EU {M:Seat} (ok:OkRc M) (n:Nat) (hn:0 < n) (hn2:n < 32) (ps:Nat→Pt) (d:Int) (w:WS) (s:BitVec 64) (h:(ps (bi ps s n)).a=s ∨ (ps (bi ps s n)).m.hl=true) :
 Ae M 275 [.ptr 0 [],W s] (tH n ps d w) 6 (Q3 (C5 4 (ps (bi ps s n))) (tH n ps d w) 6):=by
 refine Ab ok.k275 rfl fun x hx=>?_;unfold tH;refine eX ?_;simp only [Rp,S6,Aw,Aq,Ob,PW,V3,LZ,seval];refine ⟨by omega,by omega,?_⟩;refine Am (σ:=Nat) (fun i=>i≤n) (fun i=>fr 95 [(0,.ptr 0 []),(1,W s),(4,.ptr 6 []),(5,.ptr 7 []),(20,.sl 2 [] 0 n 3),(21,.int .i64 n),(22,.int .i64 i)])
  (fun i=>[(0,Aw (.sl 2 [] 0 n 3) d (.map 3) (.map 1)),(2,.ar 3 n fun j=>C5 4 (ps j)),(4,Aq 5 w.a w.b w.met),(5,BG AL Pr.zero w.ever),(6,.st 3 (.fcons 0 (W 0#64) (.fcons 1 .nilp (.fcons 2 .nilp .fnil)))),(7,C5 4 (ps (bi ps s i)))]) (fun _=>8) (fun i=>n - i) 0 Aa ?_ ?_
 ·refine Ak.fr [0,1,2,3,4,5,6,118] [] hx AG Al ?_ ?_
  ·simp only [Int.natCast_zero,LY,seval]
  ·simp only [Aw,Aq,BI,bi,seval];exact ⟨fun j _=>Ea _ _ _ 4 4 rfl _,Ea _ _ _ 4 4 rfl _⟩
 ·intro i hi;refine eX ?_;by_cases hin:i=n
  ·subst hin;have d0:((i:Int) < (i:Int))=False:=eq_false Aa;generalize bi ps s i=b at *
   rcases h with h | h
   ·simp only [d0,h,Aw,Aq,C5,Dt,Bj,B2,BK,LZ,seval];have zz:=Qe @g8 @j5 @C5.eq_1 @j9 @Cg @AT @Bs @b7;exact AI hx [0,1,2,3,4,5] ⟨rfl,rfl,rfl⟩
   ·by_cases h2:(ps b).a=s
    ·simp only [d0,h2,Aw,Aq,C5,Dt,Bj,B2,BK,LZ,seval];have zz:=Qe @g8 @j5 @C5.eq_1 @j9 @Cg @AT @Bs @b7;exact AI hx [0,1,2,3,4,5] ⟨rfl,rfl,rfl⟩
    ·simp only [d0,h2,h,CP,Aw,Aq,C5,Dt,Bj,B2,BK,seval];have zz:=T5 @c7 h @g8 @j5 @C5.eq_1 @j9 @Cg @AT @Bs @b7;exact AI hx [0,1,2,3,4,5] ⟨rfl,rfl,rfl⟩
  ·have d0:((i:Int) < (n:Int))=True:=eq_true Aa;have d1:(0≤(i:Int))=True:=eq_true Aa;have w1:IntKind.i64.wrap ((i:Int) + 1)=((i + 1:Nat):Int):=AW;by_cases c1:(ps i).a≤s
   ·by_cases c2:(ps (bi ps s i)).a < (ps i).a
    ·have e3:bi ps s (i + 1)=i:=by rw [bi,if_pos ⟨c1,c2⟩]
     simp only [d0,d1,w1,c1,c2,Aw,Aq,C5,Dt,Bj,B2,BK,LZ,seval];refine ⟨by omega,i + 1,by omega,by omega,?_⟩;refine Ak.fr [0,1,2,3,4,5,6,7] [] hx AG Al ?_ ?_
     ·simp only [LY,seval]
     ·simp only [Aw,Aq,C5,Dt,e3,BI,AT,Bs,dg,seval]
    ·have e3:bi ps s (i + 1)=bi ps s i:=by rw [bi,if_neg (fun h=>c2 h.2)]
     simp only [d0,d1,w1,c1,c2,Aw,Aq,C5,Dt,Bj,B2,BK,LZ,seval];refine ⟨by omega,i + 1,by omega,by omega,?_⟩;refine Ak.fr [0,1,2,3,4,5,6,7] [] hx AG Al ?_ ?_
     ·simp only [LY,seval]
     ·simp only [Aw,Aq,C5,Dt,e3,BI,AT,Bs,dg,seval]
   ·have e3:bi ps s (i + 1)=bi ps s i:=by rw [bi,if_neg (fun h=>c1 h.1)]
    simp only [d0,d1,w1,c1,Aw,Aq,C5,Dt,Bj,B2,BK,LZ,seval];refine ⟨by omega,i + 1,by omega,by omega,?_⟩;refine Ak.fr [0,1,2,3,4,5,6,7] [] hx AG Al ?_ ?_
    ·simp only [LY,seval]
    ·simp only [Aw,Aq,C5,Dt,e3,BI,AT,Bs,dg,seval]
def tH' (n:Nat) (ps:Nat→Pt) (P:Pt) (d:Int) (w:WS):Hp:=[(0,Aw (.sl 6 [] 0 (n + 1) 3) d (.map 3) (.map 1)),(4,Aq 5 w.a w.b w.met),(5,BG AL Pr.zero w.ever),(6,.ar 3 (n + 1) fun j=>C5 4 (if j < n then ps j else P))]
theorem O2 {H:Hp} {m z:List Nat} {K K' mi si pi qi:Nat} {P:Pt} {akx:V} (hK:m[K]?=some K') (h1:N5 H z mi=true) (h2:hget H mi=mach P.m.f P.m.g P.m.pc P.m.hl P.m.xt) (h3:N5 H z si=true)
 (h4:hget H si = .st 4 (.fcons 0 (.map pi) (.fcons 1 (.ptr K' []) (.fcons 2 (.map qi) (.fcons 3 akx .fnil))))) (h5:z.contains pi=true) (h6:Ag H pi=true) (h7:hget H pi=BG AL Pr.zero P.p) (h8:z.contains qi=true) (h9:Ag H qi=true) (h10:hget H qi=BG V.bool false P.sl)
 (h11:Ay H m z (.lst 32 P.n fun i=>dg (P.q i)) akx):Ay H m z (C5 K P) (.st 3 (.fcons 0 (W P.a) (.fcons 1 (.ptr mi []) (.fcons 2 (.ptr si []) .fnil)))):=by
 simp only [C5,Ay];refine ⟨by first | trivial | rfl,by first | trivial | rfl,by simp [W,Ay],by first | trivial | rfl,⟨h1,?_,?_⟩,by first | trivial | rfl,⟨h3,?_,?_⟩,by first | trivial | rfl⟩
 ·trivial
 ·rw [h2];exact DA _ _ _ _ _ _ _ _
 ·trivial
 ·rw [h4];show Ay H m z (Dt P.p K P.sl P.n P.q) _;simp only [Dt,Ay];refine ⟨rfl,rfl,?_,rfl,⟨hK,rfl⟩,rfl,?_,rfl,h11,rfl⟩
  ·exact Vs H m z pi AL (fun _=>(DX _ _ _ _ _).mpr rfl) Pr.zero P.p h5 h6 h7
  ·exact Vs H m z qi V.bool (fun _=>rfl) false P.sl h8 h9 h10
theorem Wo {M:Seat} (ok:OkRc M) (n:Nat) (hn:0 < n) (hn2:n < 32) (ps:Nat→Pt) (d:Int) (w:WS) (s:BitVec 64) (h0:(ps 0).a≤s) (hs:s.toNat < 1073741824) (hne:¬ (ps (bi ps s n)).a=s) (hnl:(ps (bi ps s n)).m.hl=false) (hp:Cx (ps (bi ps s n)).p) :
 ∃ (P:Pt) (w':WS) (k:Nat),k≤(s - (ps (bi ps s n)).a).toNat∧P.a=(ps (bi ps s n)).a + BitVec.ofNat 64 k∧(P.m.hl=true ∨ k=(s - (ps (bi ps s n)).a).toNat)∧(P.m,P.p)=xs (ps (bi ps s n)).m (ps (bi ps s n)).p k∧Cx P.p ∧
  Ae M 275 [.ptr 0 [],W s] (tH n ps d w) 6 (Q3 (C5 4 P) (tH' n ps P d w') 7):=by
 have hle:=QO ps s h0 n;have hT:(s - (ps (bi ps s n)).a).toInt=((s - (ps (bi ps s n)).a).toNat:Int):=by
  rw [BitVec.toInt_eq_toNat_of_lt];rw [BitVec.le_def] at hle;rw [BitVec.toNat_sub_of_le (by rw [BitVec.le_def];exact hle)];omega
 have hN:(s - (ps (bi ps s n)).a).toNat < 549755813888:=by
  rw [BitVec.le_def] at hle;rw [BitVec.toNat_sub_of_le (by rw [BitVec.le_def];exact hle)];omega
 obtain ⟨k,s',k1,k2,k3,k4,hR⟩:=Wf ok.t ⟨{ w with pres:=(ps (bi ps s n)).p },[],0,fun _=>Dg.zero,(ps (bi ps s n)).m⟩ rfl hp (s - (ps (bi ps s n)).a).toNat hN;refine ⟨⟨(ps (bi ps s n)).a + BitVec.ofNat 64 k,s'.m,s'.w.pres,s'.l,s'.n,s'.q⟩,s'.w,k,k1,rfl,k2,k3,k4,?_⟩;have hC:=CX ok.o.p.m (ps (bi ps s n)).m.f (ps (bi ps s n)).m.g (ps (bi ps s n)).m.pc (ps (bi ps s n)).m.hl (ps (bi ps s n)).m.xt;have hS:=JM ok.p (ps (bi ps s n)).p (ps (bi ps s n)).sl (ps (bi ps s n)).n (ps (bi ps s n)).q;have hv:∀ m:Mc,m.v=mach m.f m.g m.pc m.hl m.xt:=fun _=>rfl;generalize hσ:s' = σ at *
 have ek:BitVec.ofInt 64 (k:Int)=BitVec.ofNat 64 k:=BitVec.ofInt_natCast _ _;refine Ab ok.k275 rfl fun x hx=>?_;unfold tH;refine eX ?_;simp only [Rp,S6,Aw,Aq,Ob,PW,V3,LZ,seval];refine ⟨by omega,by omega,?_⟩;refine Am (σ:=Nat) (fun i=>i≤n) (fun i=>fr 95 [(0,.ptr 0 []),(1,W s),(4,.ptr 6 []),(5,.ptr 7 []),(20,.sl 2 [] 0 n 3),(21,.int .i64 n),(22,.int .i64 i)])
  (fun i=>[(0,Aw (.sl 2 [] 0 n 3) d (.map 3) (.map 1)),(2,.ar 3 n fun j=>C5 4 (ps j)),(4,Aq 5 w.a w.b w.met),(5,BG AL Pr.zero w.ever),(6,.st 3 (.fcons 0 (W 0#64) (.fcons 1 .nilp (.fcons 2 .nilp .fnil)))),(7,C5 4 (ps (bi ps s i)))]) (fun _=>8) (fun i=>n - i) 0 Aa ?_ ?_
 ·refine Ak.fr [0,1,2,3,4,5,6,118] [] hx AG Al ?_ ?_
  ·simp only [Int.natCast_zero,LY,seval]
  ·simp only [Aw,Aq,BI,bi,seval];exact ⟨fun j _=>Ea _ _ _ 4 4 rfl _,Ea _ _ _ 4 4 rfl _⟩
 ·intro i hi;refine eX ?_;by_cases hin:i=n
  ·subst hin;have d0:((i:Int) < (i:Int))=False:=eq_false Aa;generalize bi ps s i=b at *
   rw [hnl] at hC;have hb:C5 4 (ps b) = .st 3 (.fcons 0 (W (ps b).a) (.fcons 1 (.imm (mach (ps b).m.f (ps b).m.g (ps b).m.pc false (ps b).m.xt)) (.fcons 2 (.imm (.st 4 (.fcons 0 (Hf AL Pr.zero (ps b).p) (.fcons 1 (.ptr 4 []) (.fcons 2 (Hf V.bool false (ps b).sl) (.fcons 3 (.lst 32 (ps b).n fun i=>dg ((ps b).q i)) .fnil)))))) .fnil))):=by unfold C5 Dt;rw [hnl]
   simp only [Dt] at hS;have d32:((i:Int) < 32)=True:=eq_true Aa;by_cases hz:σ.n=0
   ·have h1:QU σ=Nh σ:=if_pos hz;have h2:QZ σ=6:=if_pos hz;simp only [h1,h2,Nh,Sh,AS,MW,hv,hnl,Ze,Acj] at hR;simp only [d0,hne,hb,CP,Aw,Aq,Bj,B2,BK,seval];have zz:=@c7;refine ofY (hC) ?_;simp only [mach,Bn,seval];have zz:=Cv @AT @Bs G9;refine obY [4] [] (hS) ?_;simp only [Bn,hT,mach,A3,seval];have zz:=AY @c7 G9;refine GY [440,441,4,5,442,392] (hR) ?_;simp only [Cz,mach,A3,d32,ek,seval];have hP0:∀ H:Hp,N5 H [392,440,441,442] 392=true→hget H 392=mach σ.m.f σ.m.g σ.m.pc σ.m.hl σ.m.xt→N5 H [392,440,441,442] 440=true→hget H 440 = .st 4 (.fcons 0 (.map 441) (.fcons 1 (.ptr 4 []) (.fcons 2 (.map 442) (.fcons 3 (.nils) .fnil))))→Ag H 441=true→hget H 441=BG AL Pr.zero σ.w.pres→Ag H 442=true→hget H 442=BG V.bool false σ.l→Ay H [0,1,2,3,4,5,1240] [392,440,441,442] (.lst 32 σ.n fun i=>dg (σ.q i)) (.nils) →
     Ay H [0,1,2,3,4,5,1240] [392,440,441,442] (C5 4 ⟨(ps b).a + BitVec.ofNat 64 k,σ.m,σ.w.pres,σ.l,σ.n,σ.q⟩) (.st 3 (.fcons 0 (W ((ps b).a + BitVec.ofNat 64 k)) (.fcons 1 (.ptr 392 []) (.fcons 2 (.ptr 440 []) .fnil)))) :=
     fun H a1 a2 a3 a4 a5 a6 a7 a8 a9=>O2 (P:=⟨(ps b).a + BitVec.ofNat 64 k,σ.m,σ.w.pres,σ.l,σ.n,σ.q⟩) rfl a1 a2 a3 a4 rfl a5 a6 rfl a7 a8 a9
    refine ⟨by omega,Ap.mk hx [0,1,2,3,4,5,1240] [392,440,441,442] (C5 4 ⟨(ps b).a + BitVec.ofNat 64 k,σ.m,σ.w.pres,σ.l,σ.n,σ.q⟩) (tH' i ps ⟨(ps b).a + BitVec.ofNat 64 k,σ.m,σ.w.pres,σ.l,σ.n,σ.q⟩ d σ.w) 7 Al (by (simp only [Di,seval])) ?_ ?_ ⟨rfl,rfl,rfl⟩⟩
    ·simp only [Di,seval];exact hP0 _ rfl rfl rfl rfl rfl rfl rfl rfl (by simp only [Ay];exact hz)
    ·simp only [tH',Aw,Aq,BI,seval];intro j hj;by_cases hj1:j < i
     ·rw [if_pos hj1,if_pos hj1];exact Ea _ _ _ 4 4 rfl _
     ·rw [if_neg hj1,if_neg hj1,if_pos Aa];exact hP0 _ rfl rfl rfl rfl rfl rfl rfl rfl (by simp only [Ay];exact hz)
   ·have h1:QU σ=Sh 6 σ:=if_neg hz;have h2:QZ σ=7:=if_neg hz;simp only [h1,h2,Nh,Sh,AS,MW,hv,hnl,Ze,Acj] at hR;simp only [d0,hne,hb,CP,Aw,Aq,Bj,B2,BK,seval];have zz:=@c7;refine ofY (hC) ?_;simp only [mach,Bn,seval];have zz:=Cv @AT @Bs G9;refine obY [4] [] (hS) ?_;simp only [Bn,hT,mach,A3,seval];have zz:=AY @c7 G9;refine GY [440,441,4,5,442,392] (hR) ?_;simp only [Cz,mach,A3,d32,ek,seval];have hP0:∀ H:Hp,N5 H [392,440,441,442,664] 392=true→hget H 392=mach σ.m.f σ.m.g σ.m.pc σ.m.hl σ.m.xt→N5 H [392,440,441,442,664] 440=true→hget H 440 = .st 4 (.fcons 0 (.map 441) (.fcons 1 (.ptr 4 []) (.fcons 2 (.map 442) (.fcons 3 (.sl 664 [] 0 σ.n 32) .fnil))))→Ag H 441=true→hget H 441=BG AL Pr.zero σ.w.pres→Ag H 442=true→hget H 442=BG V.bool false σ.l→Ay H [0,1,2,3,4,5,1240] [392,440,441,442,664] (.lst 32 σ.n fun i=>dg (σ.q i)) (.sl 664 [] 0 σ.n 32) →
     Ay H [0,1,2,3,4,5,1240] [392,440,441,442,664] (C5 4 ⟨(ps b).a + BitVec.ofNat 64 k,σ.m,σ.w.pres,σ.l,σ.n,σ.q⟩) (.st 3 (.fcons 0 (W ((ps b).a + BitVec.ofNat 64 k)) (.fcons 1 (.ptr 392 []) (.fcons 2 (.ptr 440 []) .fnil)))) :=
     fun H a1 a2 a3 a4 a5 a6 a7 a8 a9=>O2 (P:=⟨(ps b).a + BitVec.ofNat 64 k,σ.m,σ.w.pres,σ.l,σ.n,σ.q⟩) rfl a1 a2 a3 a4 rfl a5 a6 rfl a7 a8 a9
    refine ⟨by omega,Ap.mk hx [0,1,2,3,4,5,1240] [392,440,441,442,664] (C5 4 ⟨(ps b).a + BitVec.ofNat 64 k,σ.m,σ.w.pres,σ.l,σ.n,σ.q⟩) (tH' i ps ⟨(ps b).a + BitVec.ofNat 64 k,σ.m,σ.w.pres,σ.l,σ.n,σ.q⟩ d σ.w) 7 Al (by (simp only [Di,seval])) ?_ ?_ ⟨rfl,rfl,rfl⟩⟩
    ·simp only [Di,seval];exact hP0 _ rfl rfl rfl rfl rfl rfl rfl rfl ⟨⟨rfl,rfl⟩,rfl,trivial,rfl,by omega,fun q _=>(AJ _ _ _ _ _).mpr (by rw [Nat.zero_add])⟩
    ·simp only [tH',Aw,Aq,BI,seval];intro j hj;by_cases hj1:j < i
     ·rw [if_pos hj1,if_pos hj1];exact Ea _ _ _ 4 4 rfl _
     ·rw [if_neg hj1,if_neg hj1,if_pos Aa];exact hP0 _ rfl rfl rfl rfl rfl rfl rfl rfl ⟨⟨rfl,rfl⟩,rfl,trivial,rfl,by omega,fun q _=>(AJ _ _ _ _ _).mpr (by rw [Nat.zero_add])⟩
  ·have d0:((i:Int) < (n:Int))=True:=eq_true Aa;have d1:(0≤(i:Int))=True:=eq_true Aa;have w1:IntKind.i64.wrap ((i:Int) + 1)=((i + 1:Nat):Int):=AW;by_cases c1:(ps i).a≤s
   ·by_cases c2:(ps (bi ps s i)).a < (ps i).a
    ·have e3:bi ps s (i + 1)=i:=by rw [bi,if_pos ⟨c1,c2⟩]
     simp only [d0,d1,w1,c1,c2,Aw,Aq,C5,Dt,Bj,B2,BK,LZ,seval];refine ⟨by omega,i + 1,by omega,by omega,?_⟩;refine Ak.fr [0,1,2,3,4,5,6,7] [] hx AG Al ?_ ?_
     ·simp only [LY,seval]
     ·simp only [Aw,Aq,C5,Dt,e3,BI,AT,Bs,dg,seval]
    ·have e3:bi ps s (i + 1)=bi ps s i:=by rw [bi,if_neg (fun h=>c2 h.2)]
     simp only [d0,d1,w1,c1,c2,Aw,Aq,C5,Dt,Bj,B2,BK,LZ,seval];refine ⟨by omega,i + 1,by omega,by omega,?_⟩;refine Ak.fr [0,1,2,3,4,5,6,7] [] hx AG Al ?_ ?_
     ·simp only [LY,seval]
     ·simp only [Aw,Aq,C5,Dt,e3,BI,AT,Bs,dg,seval]
   ·have e3:bi ps s (i + 1)=bi ps s i:=by rw [bi,if_neg (fun h=>c1 h.1)]
    simp only [d0,d1,w1,c1,Aw,Aq,C5,Dt,Bj,B2,BK,LZ,seval];refine ⟨by omega,i + 1,by omega,by omega,?_⟩;refine Ak.fr [0,1,2,3,4,5,6,7] [] hx AG Al ?_ ?_
    ·simp only [LY,seval]
    ·simp only [Aw,Aq,C5,Dt,e3,BI,AT,Bs,dg,seval]
end Mv
