/- A part. -/
import Derived.Test.YtlfkjfonpacelaaGreatDoorJE
set_option linter.all false
set_option maxRecDepth 20000
set_option maxHeartbeats 4000000
namespace Mv
open Go
structure Ps where
 f:Nat→BitVec 64
 l:List Pf
 pre:Pr
def prR (s:Ps) (a:BitVec 64):BitVec 64 × Option Int × Ps:=(s.f a.toNat,none,⟨s.f,s.l ++ [BD s.f a],s.pre⟩)
def prW (s:Ps) (a v:BitVec 64):Option Int × Ps:=(none,⟨JB s.f a.toNat v,s.l ++ [BD s.f a],s.pre⟩)
def WX (pres:List (Dg × Pr)) (s:Ps) (h:Dg):Pr × Option Int × Ps:=match En h pres with
 | some p=>(p,none,⟨s.f,s.l,p⟩)
 | none=>(Pr.zero,some 14,⟨s.f,s.l,Pr.zero⟩)
def Ks (pres:List (Dg × Pr)):Mm Ps:=⟨prR,prW,WX pres⟩
theorem Own.no {b n i:Nat} {own:Hp} (ho:Own b n own) (h:i < 17 ∨ i=b ∨ n≤i):Ag own i=false:=by
 cases hh:Ag own i with
 | false=>rfl
 | true=>have:=ho i hh;omega
def MS (g:Nat→BitVec 64) (pc:BitVec 64) (hl:Bool) (xt:BitVec 64) (pres:List (Dg × Pr)) (q:Nat) (s:Ps) (b:Nat):Hp :=
 [(0,IR (.sl b [] 0 s.l.length 2) s.pre),(1,mach s.f g pc hl xt),(2,stP (.nils)),(3,BG AL Pr.zero pres),(b,.ar 2 s.l.length (Ff s.l))]
def pZN (g:Nat→BitVec 64) (pc:BitVec 64) (hl:Bool) (xt:BitVec 64) (pres:List (Dg × Pr)) (q:Nat) (s:Ps):Hp :=
 [(0,IR .nils s.pre),(1,mach s.f g pc hl xt),(2,stP (.nils)),(3,BG AL Pr.zero pres)]
theorem OD (g:Nat→BitVec 64) (pc:BitVec 64) (hl:Bool) (xt:BitVec 64) (pres:List (Dg × Pr)) (q:Nat) (s:Ps) (b b':Nat) (H:Hp) (m z:List Nat) (hm:∀ i,i < 6→m[i]?=some i) (hb:m[b']?=some b)
 (hH:∀ i,Ag (MS g pc hl xt pres q s b) i=true→Ag H i=true∧hget H i=hget (MS g pc hl xt pres q s b) i) (hk:6≤b):BC H m z (MS g pc hl xt pres q s b'):=by
 have n0:¬ 0=b:=Aa;have n1:¬ 1=b:=Aa;have n2:¬ 2=b:=Aa;have n3:¬ 3=b:=Aa;have h0:=hH 0 rfl;have h1:=hH 1 rfl;have h2:=hH 2 rfl;have h3:=hH 3 rfl;have h4:=hH b (by simp [MS,Ag]);have g4:hget (MS g pc hl xt pres q s b) b = .ar 2 s.l.length (Ff s.l):=by simp only [MS,hget,n0,n1,n2,n3,B4]
 rw [g4] at h4;simp only [MS,hget,if_true,seval] at h0 h1 h2 h3;simp only [MS,BC,hm 0 Aa,hm 1 Aa,hm 2 Aa,hm 3 Aa,hb,h0,h1,h2,h3,h4,Jb];refine ⟨?_,DA ..,?_,?_,?_⟩
 ·simp only [IR,Ay,hm 1 Aa,hm 2 Aa,hb,Jb,DX]
 ·simp only [stP,Ay,hm 3 Aa,hm 4 Aa,hm 5 Aa,Jb];try exact hm 6 Aa
 ·exact Ko H m z AL (fun x=>(DX H m z x x).mpr rfl) Pr.zero pres
 ·simp only [Ay,true_and];exact fun i _=>(BW H m z s.l i).mpr trivial
theorem US (g:Nat→BitVec 64) (pc:BitVec 64) (hl:Bool) (xt:BitVec 64) (pres:List (Dg × Pr)) (q:Nat) (s:Ps) (H:Hp) (m z:List Nat) (hm:∀ i,i < 6→m[i]?=some i)
 (hH:∀ i,Ag (pZN g pc hl xt pres q s) i=true→Ag H i=true∧hget H i=hget (pZN g pc hl xt pres q s) i):BC H m z (pZN g pc hl xt pres q s):=by
 have h0:=hH 0 rfl;have h1:=hH 1 rfl;have h2:=hH 2 rfl;have h3:=hH 3 rfl;simp only [pZN,hget,if_true,seval] at h0 h1 h2 h3;simp only [pZN,BC,hm 0 Aa,hm 1 Aa,hm 2 Aa,hm 3 Aa,h0,h1,h2,h3,Jb];refine ⟨?_,DA ..,?_,?_⟩
 ·simp only [IR,Ay,hm 1 Aa,hm 2 Aa,Jb,DX]
 ·simp only [stP,Ay,hm 3 Aa,hm 4 Aa,hm 5 Aa,Jb];try exact hm 6 Aa
 ·exact Ko H m z AL (fun x=>(DX H m z x x).mpr rfl) Pr.zero pres
theorem EO (g:Nat→BitVec 64) (pc:BitVec 64) (hl:Bool) (xt:BitVec 64) (pres:List (Dg × Pr)) (q:Nat) (s:Ps) (b i:Nat) (h:Ag (MS g pc hl xt pres q s b) i=true):i < 4 ∨ i=b:=by
 simp only [MS,Rr,beq_iff_eq,Bool.or_false] at h;omega
theorem Pe (g:Nat→BitVec 64) (pc:BitVec 64) (hl:Bool) (xt:BitVec 64) (pres:List (Dg × Pr)) (q:Nat) (s:Ps) (i:Nat) (h:Ag (pZN g pc hl xt pres q s) i=true):i < 4:=by
 simp only [pZN,Rr,beq_iff_eq,Bool.or_false] at h;omega
theorem Q7 (g:Nat→BitVec 64) (pc:BitVec 64) (hl:Bool) (xt:BitVec 64) (pres:List (Dg × Pr)) (q:Nat) (s:Ps) (b:Nat) (hb:6≤b):AB (MS g pc hl xt pres q s b) [0,1,2,3,b]=[]:=by
 have n0:¬ b=0:=Aa;have n1:¬ b=1:=Aa;have n2:¬ b=2:=Aa;have n3:¬ b=3:=Aa;have n0':¬ 0=b:=Aa;have n1':¬ 1=b:=Aa;have n2':¬ 2=b:=Aa;have n3':¬ 3=b:=Aa;simp only [AB,MS,BZ,n0,n1,n2,n3,n0',n1',n2',n3',B4,seval]
theorem Yz {b:Nat} (hb:6≤b):([0,1,2,3,4,5,b]:List Nat).Nodup:=by
 rw [show ([0,1,2,3,4,5,b]:List Nat)=[0,1,2,3,4,5] ++ [b] from rfl,List.nodup_append];refine ⟨by decide,by simp,fun a ha c hc=>?_⟩;simp only [XA] at ha hc;omega
def Ajd {M:Seat} (okA:OkM M) (okO:OkO M) (ok:OkPr M) (g:Nat→BitVec 64) (pc:BitVec 64) (hl:Bool) (xt:BitVec 64) (pres:List (Dg × Pr)) (q:Nat):MemI M where
 σ:=Ps
 t:=422
 ht:=.inl rfl
 k0:=6
 kk:=7
 hk:=Aa
 E s b:=MS g pc hl xt pres q s b
 E0 s:=pZN g pc hl xt pres q s
 mm:=Ks pres
 Z s:=s.l=[]
 len s:=s.l.length
 lr s a:=by simp [Ks,prR]
 lw s a v:=by simp [Ks,prW]
 lp s h:=Apb
 lz s h:=by simp [h]
 hids s b i h:=by rcases EO g pc hl xt pres q s b i h with h | h <;> omega
 hids0 s i h:=by have:=Pe g pc hl xt pres q s i h;omega
 sim0 s H m z hm hH:=US g pc hl xt pres q s H m z hm hH
 simE s b b' H m z hk hm hb hH:=OD g pc hl xt pres q s b b' H m z hm hb hH hk
 c0 {f us us' v s s'} own {n K} hr hus hv ho hK:=by
  refine D5 (E':=MS g pc hl xt pres q s' n) [0,1,2,3,4,5] [0,1,2,3] hr ?_ B9 Al ⟨rfl,by omega⟩ (fun i hi=>?_) ?_ (hus _ _ _ rfl) (US g pc hl xt pres q s _ _ _ (fun i hi=>?_) (Ft fun i hi=>ho.no (by have:=Pe g pc hl xt pres q s i hi;omega))) rfl rfl hv (fun i hi=>?_) hK
  ·intro id i h1 h2;have h:=Pe g pc hl xt pres q s id h1;have:id=0 ∨ id=1 ∨ id=2 ∨ id=3:=Aa;rcases this with rfl | rfl | rfl | rfl <;> (obtain rfl:=Option.some.inj h2;simp)
  ·simp only [XA] at hi;rcases hi with rfl | rfl | rfl | rfl <;> exact ⟨rfl,ho.no Aa⟩
  ·exact fun i hi=>by
    have h:([0,1,2,3,4,5]:List Nat).all (fun i=>Ag (pZN g pc hl xt pres q s) i || HK [0,1,2,3] (pZN g pc hl xt pres q s) i)=true:=Ca;have:=List.all_eq_true.1 h i hi;simpa using this
  ·have:i=0 ∨ i=1 ∨ i=2 ∨ i=3 ∨ i=4 ∨ i=5 ∨ (i=6∧6=7):=Aa;rcases this with rfl | rfl | rfl | rfl | rfl | rfl | ⟨rfl,h⟩ <;> first | rfl | omega
  ·rcases EO g pc hl xt pres q s' n i hi with h | h <;> exact ho.no Aa
 ck {f us us' v s s' b} own {n K} hr hus hv hb ho hK:=by
  have hids:∀ i,i ∈ ([0,1,2,3,b]:List Nat)→Ag (MS g pc hl xt pres q s b) i=true∧Ag own i=false:=fun i hi=>by
   simp only [XA] at hi;rcases hi with rfl | rfl | rfl | rfl | rfl
   ·exact ⟨rfl,ho.no Aa⟩
   ·exact ⟨rfl,ho.no Aa⟩
   ·exact ⟨rfl,ho.no Aa⟩
   ·exact ⟨rfl,ho.no Aa⟩
   ·exact ⟨by simp [MS,Ag],ho.no Aa⟩
  refine D5 (E':=MS g pc hl xt pres q s' n) [0,1,2,3,4,5,b] [0,1,2,3,b] hr ?_ B9 (Yz hb) ⟨rfl,by omega⟩ hids ?_ (hus _ _ _ rfl) (OD g pc hl xt pres q s b 6 _ _ _ (fun i hi=>?_) rfl (Ft fun i hi=>ho.no (by have:=EO g pc hl xt pres q s b i hi;omega)) hb) rfl (Q7 g pc hl xt pres q s b hb) hv (fun i hi=>?_) hK
  ·intro id i h1 h2;have h:=EO g pc hl xt pres q s 6 id h1;have:id=0 ∨ id=1 ∨ id=2 ∨ id=3 ∨ id=6:=Aa;rcases this with rfl | rfl | rfl | rfl | rfl <;> (obtain rfl:=Option.some.inj h2;simp)
  ·intro i hi;by_cases h5:i ∈ ([0,1,2,3,b]:List Nat)
   ·exact .inl (hids i h5).1
   ·right;have hj:i=4 ∨ i=5 ∨ (i=6∧6=7):=by
     simp only [XA] at hi h5;omega
    refine List.any_eq_true.2 ⟨2,by simp,?_⟩;rcases hj with rfl | rfl | ⟨rfl,h⟩ <;> first | rfl | omega
  ·have:i=0 ∨ i=1 ∨ i=2 ∨ i=3 ∨ i=4 ∨ i=5 ∨ (i=6∧6=7):=Aa;rcases this with rfl | rfl | rfl | rfl | rfl | rfl | ⟨rfl,h⟩ <;> first | rfl | omega
  ·rcases EO g pc hl xt pres q s' n i hi with h | h <;> exact ho.no Aa
 cu {f us us' v s s' b} own {n K} hr hus hv hb ho hK:=by
  have hids:∀ i,i ∈ ([0,1,2,3,b]:List Nat)→Ag (MS g pc hl xt pres q s b) i=true∧Ag own i=false:=fun i hi=>by
   simp only [XA] at hi;rcases hi with rfl | rfl | rfl | rfl | rfl
   ·exact ⟨rfl,ho.no Aa⟩
   ·exact ⟨rfl,ho.no Aa⟩
   ·exact ⟨rfl,ho.no Aa⟩
   ·exact ⟨rfl,ho.no Aa⟩
   ·exact ⟨by simp [MS,Ag],ho.no Aa⟩
  refine D5 (E':=MS g pc hl xt pres q s' b) [0,1,2,3,4,5,b] [0,1,2,3,b] hr ?_ B9 (Yz hb) ⟨rfl,by omega⟩ hids ?_ (hus _ _ _ rfl) (OD g pc hl xt pres q s b 6 _ _ _ (fun i hi=>?_) rfl (Ft fun i hi=>ho.no (by have:=EO g pc hl xt pres q s b i hi;omega)) hb) rfl (Q7 g pc hl xt pres q s b hb) hv (fun i hi=>?_) hK
  ·intro id i h1 h2;have h:=EO g pc hl xt pres q s 6 id h1;have:id=0 ∨ id=1 ∨ id=2 ∨ id=3 ∨ id=6:=Aa;rcases this with rfl | rfl | rfl | rfl | rfl <;> (obtain rfl:=Option.some.inj h2;simp)
  ·intro i hi;by_cases h5:i ∈ ([0,1,2,3,b]:List Nat)
   ·exact .inl (hids i h5).1
   ·right;have hj:i=4 ∨ i=5 ∨ (i=6∧6=7):=by
     simp only [XA] at hi h5;omega
    refine List.any_eq_true.2 ⟨2,by simp,?_⟩;rcases hj with rfl | rfl | ⟨rfl,h⟩ <;> first | rfl | omega
  ·have:i=0 ∨ i=1 ∨ i=2 ∨ i=3 ∨ i=4 ∨ i=5 ∨ (i=6∧6=7):=Aa;rcases this with rfl | rfl | rfl | rfl | rfl | rfl | ⟨rfl,h⟩ <;> first | rfl | omega
  ·rcases EO g pc hl xt pres q s' b i hi with h | h <;> exact ho.no Aa
 fr:=596
 fw:=597
 fp:=595
 mr:=ok.m0
 mw:=ok.m1
 mp:=ok.m2
 rr0 s a hz ha:=by
  obtain ⟨f,l,pre⟩:=s;have hz:l=[]:=hz;subst hz;exact SP okA ok f g pc hl xt pre pres q a ha
 rr s a hL ha:=NU okA ok s.f g pc hl xt s.pre pres q s.l hL a ha
 rw s a v hL ha:=W4 okA ok s.f g pc hl xt s.pre pres q s.l hL a v ha
 rp s h:=by
  have hP:=Xs ok okO s.f g pc hl xt s.pre pres q s.l h;show Ae M 595 _ _ _ (Q3 (Ai (AL (WX pres s h).1) (Cn (WX pres s h).2.1)) (MS g pc hl xt pres q (WX pres s h).2.2 6) (7 + 1));refine up1 ?_;unfold WX;cases hk:En h pres with
  | none=>rw [hk] at hP;exact hP
  | some p=>rw [hk] at hP;exact hP
theorem GM (w:BitVec 64):isI w=true ↔ (Cj w≤35∧w >>> 32 &&& 255#64=0#64):=by simp [isI]
theorem J3 {M:Seat} (ok:OkQ M) (I:MemI M) (h:Hd) (s:I.σ) (hz:I.Z s) (hl:h.hl=false) (hpc:¬ 8192#64≤h.pc) (q:Hd × Option Int × I.σ) (hq:nx I.mm h s=q) :
 Ae M 241 [h.v,.ifc I.t (.ptr 0 [])] (I.E0 s) I.k0 (Q3 (Ai q.1.v (Cn q.2.1)) (I.E q.2.2 I.k0) (I.k0 + 1)):=by
 obtain ⟨g,pc,hl',xt⟩:=h;dsimp only at hl hpc;subst hl;rw [nx] at hq;cases he:(I.mm.rd s pc).2.1 with
 | some e =>
   have h0:=TA ok I g pc xt s hz hpc e he;dsimp only at hq;rw [he] at hq;subst hq;exact h0
 | none =>
   dsimp only at hq;rw [he] at hq;dsimp only at hq;generalize hw:(I.mm.rd s pc).1=w at hq;generalize hs:(I.mm.rd s pc).2.2=s1 at hq;unfold Ox at hq;by_cases q0:isI w=false
   ·rw [if_pos q0] at hq;subst hq;exact VF ok I g pc xt s hz hpc w hw he s1 hs (fun h=>by rw [(GM w).2 h] at q0;cases q0)
   rw [if_neg q0] at hq;obtain ⟨h35,h2⟩:=(GM w).1 (by simpa using q0);by_cases q1:Cj w=0
   ·rw [if_pos q1] at hq;subst hq;exact Qi ok I g pc xt s hz hpc w hw he s1 hs q1 h2
   rw [if_neg q1] at hq;by_cases q2:Cj w < 26
   ·rw [if_pos q2] at hq;subst hq;exact OC ok I g pc xt s hz hpc w hw he s1 hs (Cj w) Aa Aa rfl h2
   rw [if_neg q2] at hq;by_cases q3:Cj w=26
   ·rw [if_pos q3] at hq;subst hq;exact V6 ok I g pc xt s hz hpc w hw he s1 hs q3 h2
   rw [if_neg q3] at hq;by_cases q4:Cj w=27 ∨ Cj w=28
   ·rw [if_pos q4] at hq;by_cases q5:8192#64≤g (pF w 48) + BitVec.ofInt 64 (pN w)
    ·rw [if_pos q5] at hq;subst hq;rcases q4 with q4 | q4
     ·exact SZ ok I g pc xt s hz hpc w hw he s1 hs q4 h2 _ rfl q5
     ·exact Tj ok I g pc xt s hz hpc w hw he s1 hs q4 h2 _ rfl q5
    rw [if_neg q5] at hq;by_cases q6:Cj w=27
    ·rw [if_pos q6] at hq;subst hq;dsimp only;cases he2:(I.mm.rd s1 (g (pF w 48) + BitVec.ofInt 64 (pN w))).2.1 with
     | none=>exact WR ok I g pc xt s hz hpc w hw he s1 hs q6 h2 _ rfl q5 he2
     | some e=>exact Sp ok I g pc xt s hz hpc w hw he s1 hs q6 h2 _ rfl q5 e he2
    ·rw [if_neg q6] at hq;subst hq;dsimp only;have q6:Cj w=28:=q4.resolve_left q6;cases he2:(I.mm.wr s1 (g (pF w 48) + BitVec.ofInt 64 (pN w)) (g (pF w 44))).1 with
     | none=>exact WC ok I g pc xt s hz hpc w hw he s1 hs q6 h2 _ rfl q5 he2
     | some e=>exact Ud ok I g pc xt s hz hpc w hw he s1 hs q6 h2 _ rfl q5 e he2
   rw [if_neg q4] at hq;by_cases q7:Cj w < 34
   ·rw [if_pos q7] at hq;subst hq;exact R2 ok I g pc xt s hz hpc w hw he s1 hs (Cj w) Aa rfl h2
   rw [if_neg q7] at hq;by_cases q8:Cj w=34
   ·dsimp only at hq;rw [q8] at hq;by_cases q9:(wi (g (pF w 48)) 8#64 && wi (g (pF w 44)) 4#64)=false
    ·have:TL I.mm 34 ⟨g,pc,false,xt⟩ s1 (g (pF w 48)) (g (pF w 44))=((⟨g,pc,false,xt⟩:Hd).stop AD,none,s1):=by rw [TL,if_pos];exact q9
     rw [this] at hq;subst hq;exact MH ok I g pc xt s hz hpc w hw he s1 hs q8 h2 q9
    ·simp only [Bool.not_eq_false,Bool.and_eq_true] at q9;exact Ph ok I g pc xt s hz hpc w hw he s1 hs q8 h2 q9.1 q9.2 q hq
   ·have q8:Cj w=35:=Aa;dsimp only at hq;rw [q8] at hq;by_cases q9:(wi (g (pF w 48)) 4#64 && wi (g (pF w 44)) 8#64)=false
    ·have:TL I.mm 35 ⟨g,pc,false,xt⟩ s1 (g (pF w 48)) (g (pF w 44))=((⟨g,pc,false,xt⟩:Hd).stop AD,none,s1):=by rw [TL,if_pos];exact q9
     rw [this] at hq;subst hq;exact MD ok I g pc xt s hz hpc w hw he s1 hs q8 h2 q9
    ·simp only [Bool.not_eq_false,Bool.and_eq_true] at q9;exact O3 ok I g pc xt s hz hpc w hw he s1 hs q8 h2 q9.1 q9.2 q hq
theorem RG {α:Type} (k:Dg) (x:α):∀ l:List (Dg × α),En k (Dx k x l)=some x
 | []=>by simp [Dx,En]
 | (h, y) :: r => by
   by_cases e:k=h
   ·simp [Dx,En,e]
   ·have:=RG k x r;simp [Dx,En,e,this]
def rdL (f:Nat→BitVec 64) (a:BitVec 64):Nat→Nat→List (BitVec 64)
 | 0,_=>[]
 | n + 1,i=>f (a + BitVec.ofNat 64 i).toNat :: rdL f a n (i + 1)
def rdP (f:Nat→BitVec 64) (a:BitVec 64):Nat→Nat→List Pf
 | 0,_=>[]
 | n + 1,i=>BD f (a + BitVec.ofNat 64 i) :: rdP f a n (i + 1)
def wrF (a:BitVec 64) (v:Nat→BitVec 64):Nat→Nat→(Nat→BitVec 64)→Nat→BitVec 64
 | 0,_,f=>f
 | n + 1,i,f=>wrF a v n (i + 1) (JB f (a + BitVec.ofNat 64 i).toNat (v i))
def wrP (a:BitVec 64) (v:Nat→BitVec 64):Nat→Nat→(Nat→BitVec 64)→List Pf
 | 0,_,_=>[]
 | n + 1,i,f=>BD f (a + BitVec.ofNat 64 i) :: wrP a v n (i + 1) (JB f (a + BitVec.ofNat 64 i).toNat (v i))
theorem SG (pres:List (Dg × Pr)) (a:BitVec 64):∀ (n i:Nat) (s:Ps) (l:List (BitVec 64)),Sf (Ks pres) a n i s l=(none,⟨s.f,s.l ++ rdP s.f a n i,s.pre⟩,l ++ rdL s.f a n i)
 | 0,i,s,l=>by simp [Sf,rdP,rdL]
 | n + 1, i, s, l => by
   rw [Sf];show Sf (Ks pres) a n (i + 1) ⟨s.f,s.l ++ [BD s.f (a + BitVec.ofNat 64 i)],s.pre⟩ (l ++ [s.f (a + BitVec.ofNat 64 i).toNat])=_;rw [SG pres a n (i + 1)];simp [rdP,rdL]
theorem Tf (pres:List (Dg × Pr)) (a:BitVec 64) (v:Nat→BitVec 64):∀ (n i:Nat) (s:Ps),wrA (Ks pres) a v n i s=(none,⟨wrF a v n i s.f,s.l ++ wrP a v n i s.f,s.pre⟩)
 | 0,i,s=>by simp [wrA,wrF,wrP]
 | n + 1, i, s => by
   rw [wrA];show wrA (Ks pres) a v n (i + 1) ⟨JB s.f (a + BitVec.ofNat 64 i).toNat (v i),s.l ++ [BD s.f (a + BitVec.ofNat 64 i)],s.pre⟩=_;rw [Tf pres a v n (i + 1)];simp [wrF,wrP]
theorem Acy (f:Nat→BitVec 64) (a:BitVec 64):∀ n i j,a.toNat + (i + n)≤8192→j < n→(rdL f a n i).getD j 0#64=f (a.toNat + i + j)
 | n + 1, i, 0, h, _ => by
   have:(a + BitVec.ofNat 64 i).toNat=a.toNat + i:=by rw [BitVec.toNat_add,E1 i Aa];omega
   simp [rdL,this]
 | n + 1, i, j + 1, h, hj => by
   have:=Acy f a n (i + 1) j Aa Aa;simp only [rdL,List.getD_cons_succ,this]
   congr 1;omega
theorem S8 (a:BitVec 64) (v:Nat→BitVec 64):∀ n i f j,a.toNat + (i + n)≤8192→wrF a v n i f j=if a.toNat + i≤j∧j < a.toNat + i + n then v (j - a.toNat) else f j
 | 0,i,f,j,_=>by simp only [wrF];rw [if_neg Aa]
 | n + 1, i, f, j, h => by
   have e:(a + BitVec.ofNat 64 i).toNat=a.toNat + i:=by rw [BitVec.toNat_add,E1 i Aa];omega
   rw [wrF,S8 a v n (i + 1) _ j Aa,JB,e];by_cases h1:j=a.toNat + i
   ·subst h1;rw [if_neg Aa,if_pos rfl,if_pos Aa]
    congr 1;omega
   ·rw [if_neg h1];by_cases h2:a.toNat + (i + 1)≤j∧j < a.toNat + (i + 1) + n
    ·rw [if_pos h2,if_pos Aa]
    ·rw [if_neg h2,if_neg Aa]
def Cx (pres:List (Dg × Pr)):Prop:=∀ h p,En h pres=some p→Co p.at=h
variable {M:Seat}
structure OkOs (M:Seat):Prop where
 q:OkQ M
 d:OkD M
 c:OkCk M
 p:OkPr M
 k97:Ar M 97 f97=true
 k98:Ar M 98 f98=true
def DG (root:Dg) (h:Hd) (l:List Pf) (pre:Pr):V:=.st 116 (.fcons 0 (dg root) (.fcons 32 h.v (.fcons 51 (.lst 2 l.length (Ff l)) (.fcons 52 (AL pre) .fnil))))
def Mc.h (m:Mc):Hd:=⟨m.g,m.pc,m.hl,m.xt⟩
def P7 (m:Mc) (e:Option Int) (l:List Pf) (pre:Pr):V:=match e with
 | none=>Ai (DG (Cd m.f 13 0) m.h l pre) .nili
 | some n=>Ai (DG Dg.zero ⟨fun _=>0#64,0#64,false,0#64⟩ [] Pr.zero) (.ifc 74 (.int .i64 n))
def Lbm:=(Gb @x8 @Mc.h.eq_1 @f8 @P7.eq_1 @P7.eq_2 @DG.eq_1)
def Q2 (va:V):V:=.st 4 (.fcons 0 (.map 2) (.fcons 1 (.ptr 3 []) (.fcons 2 (.map 4) (.fcons 3 va .fnil))))
def Lca:=(Em @LM @Lbm @Qu @List.length_nil.{0} @Q2.eq_1)
theorem TY (ok:OkOs M) (f g:Nat→BitVec 64) (pc xt:BitVec 64) (pres:List (Dg × Pr)) (q:Nat) :
 Ae M 97 [.ptr 0 [],.ptr 1 []] [(0,mach f g pc true xt),(1,Q2 (.nils)),(2,BG AL Pr.zero pres)] 5
  (Q3 (P7 ⟨f,g,pc,true,xt⟩ none [] Pr.zero) [(0,mach f g pc true xt),(1,Q2 (.nils)),(2,BG AL Pr.zero pres)] 5):=by
 refine Ab ok.k97 rfl fun x hx=>?_;have hN:Ae M 241 [Ba g pc true xt,.ifc 422 (.ptr 0 [])] [(0,IR .nils Pr.zero),(1,mach f g pc true xt),(2,stP (.nils)),(3,BG AL Pr.zero pres)] 6 (Q3 (Ai (Ba g pc true xt) .nili) [(0,IR .nils Pr.zero),(1,mach f g pc true xt),(2,stP (.nils)),(3,BG AL Pr.zero pres)] (6 + 1)) :=
  IX ok.q (Ajd ok.q.okA ok.q.ok ok.p g pc true xt pres q) g pc xt ⟨f,[],Pr.zero⟩
 refine eX ?_;simp only [f97,c97,LZ,seval];have zz:=@c7;refine Jp (CX ok.q.okA f g pc true xt) ?_;simp only [Be,Vu,LZ,seval];have zz:=AY @c7 @f8;refine Dh (Dz ok.d f g pc true xt) ?_;simp only [Bb,Ba,seval];have zz:=AY @c7 @b7;refine Dh (DM ok.q.okA f g pc true xt) ?_;simp only [Bb,seval];have zz:=Cv Lby @Q2.eq_1 @Cg;refine By [197,149,1,2,3,4] [197,149,1,2] (hN) ?_;simp only [Cz,Lby,Be,seval];have zz:=AY Lca @b7;exact AI hx [0,1,2,3,4] ⟨rfl,rfl,rfl⟩
theorem Rj (ok:OkOs M) (f g:Nat→BitVec 64) (pc xt:BitVec 64) (hpc:8192#64≤pc) (pres:List (Dg × Pr)) (q:Nat) :
 Ae M 97 [.ptr 0 [],.ptr 1 []] [(0,mach f g pc false xt),(1,Q2 (.nils)),(2,BG AL Pr.zero pres)] 5
  (Q3 (P7 ⟨f,g,pc,false,xt⟩ none [] Pr.zero) [(0,mach f g pc false xt),(1,Q2 (.nils)),(2,BG AL Pr.zero pres)] 5):=by
 refine Ab ok.k97 rfl fun x hx=>?_;have hN:Ae M 241 [Ba g pc false xt,.ifc 422 (.ptr 0 [])] [(0,IR .nils Pr.zero),(1,mach f g pc false xt),(2,stP (.nils)),(3,BG AL Pr.zero pres)] 6 (Q3 (Ai (Ba g pc true AD) .nili) [(0,IR .nils Pr.zero),(1,mach f g pc false xt),(2,stP (.nils)),(3,BG AL Pr.zero pres)] (6 + 1)) :=
  H8 ok.q (Ajd ok.q.okA ok.q.ok ok.p g pc false xt pres q) g pc xt ⟨f,[],Pr.zero⟩ hpc
 refine eX ?_;simp only [f97,c97,LZ,seval];have zz:=@c7;refine Jp (CX ok.q.okA f g pc false xt) ?_;simp only [Be,Vu,LZ,seval];have zz:=AY @c7 @f8;refine Dh (Dz ok.d f g pc false xt) ?_;simp only [Bb,Ba,seval];have zz:=AY @c7 @b7;refine Dh (DM ok.q.okA f g pc false xt) ?_;simp only [Bb,seval];have zz:=Cv Lby @Q2.eq_1 @Cg;refine By [197,149,1,2,3,4] [197,149,1,2] (hN) ?_;simp only [Cz,Lby,Be,seval];have zz:=AY Lca @b7;exact AI hx [0,1,2,3,4] ⟨rfl,rfl,rfl⟩
theorem VV (ok:OkOs M) (f g:Nat→BitVec 64) (pc xt:BitVec 64) (hpc:¬ 8192#64≤pc) (pres:List (Dg × Pr)) (q:Nat) (h1:Hd) (e:Option Int) (s1:Ps) (hq:nx (Ks pres) ⟨g,pc,false,xt⟩ ⟨f,[],Pr.zero⟩=(h1,e,s1)) :
 Ae M 97 [.ptr 0 [],.ptr 1 []] [(0,mach f g pc false xt),(1,Q2 (.nils)),(2,BG AL Pr.zero pres)] 5
  (Q3 (P7 ⟨f,g,pc,false,xt⟩ e s1.l s1.pre) [(0,mach f g pc false xt),(1,Q2 (.nils)),(2,BG AL Pr.zero pres)] 5):=by
 refine Ab ok.k97 rfl fun x hx=>?_;obtain ⟨g1,pc1,hl1,xt1⟩:=h1;obtain ⟨f1,l1,pre1⟩:=s1;have hN:Ae M 241 [Ba g pc false xt,.ifc 422 (.ptr 0 [])] [(0,IR .nils Pr.zero),(1,mach f g pc false xt),(2,stP (.nils)),(3,BG AL Pr.zero pres)] 6 (Q3 (Ai (Ba g1 pc1 hl1 xt1) (Cn e)) [(0,IR (.sl 6 [] 0 l1.length 2) pre1),(1,mach f1 g pc false xt),(2,stP (.nils)),(3,BG AL Pr.zero pres),(6,.ar 2 l1.length (Ff l1))] (6 + 1)) :=
  J3 ok.q (Ajd ok.q.okA ok.q.ok ok.p g pc false xt pres q) ⟨g,pc,false,xt⟩ ⟨f,[],Pr.zero⟩ rfl rfl hpc _ hq
 refine eX ?_;simp only [f97,c97,LZ,seval];have zz:=@c7;refine Jp (CX ok.q.okA f g pc false xt) ?_;simp only [Be,Vu,LZ,seval];have zz:=AY @c7 @f8;refine Dh (Dz ok.d f g pc false xt) ?_;simp only [Bb,Ba,seval];have zz:=AY @c7 @b7;refine Dh (DM ok.q.okA f g pc false xt) ?_;simp only [Bb,seval];cases e with
 | none =>
   have zz:=Cv Lby @Q2.eq_1 @Cg;refine By [197,149,1,2,3,4] [197,149,1,2] (hN) ?_;simp only [Je,Lby,BS,Be,seval];refine Ap.mk hx [0,1,2,3,4] [533] (P7 ⟨f,g,pc,false,xt⟩ none l1 pre1) [(0,mach f g pc false xt),(1,Q2 (.nils)),(2,BG AL Pr.zero pres)] 5 Al (by (simp only [LV,Bn,seval])) ?_ ?_ ⟨rfl,rfl,rfl⟩
   ·simp only [LV,Lbm,Cz,dg,BI,seval];refine ⟨by rfl,fun i hi=>?_⟩;try rw [Nat.zero_add]
    exact Px _ _ _ _
   ·simp only [Q2,BI,seval]
 | some n =>
   have zz:=Cv Lby @Q2.eq_1 @Cg;refine By [197,149,1,2,3,4] [197,149,1,2] (hN) ?_;simp only [Je,Lby,AA,Be,Vu,seval];have zz:=AY Lca Lbc;exact AI hx [0,1,2,3,4] ⟨rfl,rfl,rfl⟩
def vfE (c:Ck) (h:Hd):Dg × Option Int:=if c.l=[] then (BP c.root (D2 h.g h.pc h.hl h.xt),none) else (Dg.zero,some 3)
def vfX (e:Option Int) (c:Ck) (h:Hd):Dg × Option Int:=match e with
 | some n=>(Dg.zero,some n)
 | none=>vfE c h
def vfy (claim root:Dg) (h:Hd) (l:List Pf) (pre:Pr):Dg × Option Int :=
 if ¬ BP root (D2 h.g h.pc h.hl h.xt)=claim then (Dg.zero,some 31)
 else if h.hl=true then vfE ⟨root,l,pre⟩ h
 else if 8192#64≤h.pc then vfE ⟨root,l,pre⟩ (h.stop AD)
 else vfX (nx ckM h ⟨root,l,pre⟩).2.1 (nx ckM h ⟨root,l,pre⟩).2.2 (nx ckM h ⟨root,l,pre⟩).1
theorem SE (ok:OkOs M) (claim root:Dg) (g:Nat→BitVec 64) (pc:BitVec 64) (hl:Bool) (xt:BitVec 64) (l:List Pf) (pre:Pr) (hc:¬ BP root (D2 g pc hl xt)=claim) :
 Ae M 98 [dg claim,DG root ⟨g,pc,hl,xt⟩ l pre] [] 0 (Q3 (Ai (dg Dg.zero) (Cn (some 31))) [] 0):=by
 refine Ab ok.k98 rfl fun x hx=>?_;refine eX ?_;simp only [f98,c98,DG,Hd.v,Ba,Bn,seval];have zz:=AY @b7 @f8;refine Ge (DV ok.q.okA ok.d root g pc hl xt) ?_;simp only [eq_false hc,Bn,dg0,seval];have zz:=Cv @AA @b7 @LM;exact AI hx [] ⟨rfl,rfl,rfl⟩
theorem KL (ok:OkOs M) (root:Dg) (g:Nat→BitVec 64) (pc:BitVec 64) (hl:Bool) (xt:BitVec 64) (l:List Pf) (pre:Pr) (g1:Nat→BitVec 64) (pc1:BitVec 64) (hl1:Bool) (xt1:BitVec 64) (e:Option Int) (c1:Ck)
 (hN:Ae M 241 [Ba g pc hl xt,.ifc 426 (.ptr 0 [])] [(0,(⟨root,l,pre⟩:Ck).vv)] 1 (Q3 (Ai (Ba g1 pc1 hl1 xt1) (Cn e)) [(0,c1.vv)] 2)) (q:Dg × Option Int) (hq:vfX e c1 ⟨g1,pc1,hl1,xt1⟩=q) :
 Ae M 98 [dg (BP root (D2 g pc hl xt)),DG root ⟨g,pc,hl,xt⟩ l pre] [] 0 (Q3 (Ai (dg q.1) (Cn q.2)) [] 0):=by
 refine Ab ok.k98 rfl fun x hx=>?_;obtain ⟨root1,l1,pre1⟩:=c1;cases e with
 | some n =>
   have hq:(Dg.zero,some n)=q:=hq;subst hq;refine eX ?_;simp only [f98,c98,DG,Hd.v,Ba,Bn,seval];have zz:=AY @b7 @f8;refine Ge (DV ok.q.okA ok.d root g pc hl xt) ?_;simp only [Bn,seval];have zz:=D0 @j7 @f8 @b7 Jq;refine By [400] [400] (hN) ?_;simp only [Ck.vv,Je,Ba,AA,dg0,seval];have zz:=Cv @AA @b7 @LM;exact AI hx [] ⟨rfl,rfl,rfl⟩
 | none =>
   have hq:vfE ⟨root1,l1,pre1⟩ ⟨g1,pc1,hl1,xt1⟩=q:=hq;cases l1 with
   | nil =>
     rw [vfE,if_pos rfl] at hq;subst hq;refine eX ?_;simp only [f98,c98,DG,Hd.v,Ba,Bn,seval];have zz:=AY @b7 @f8;refine Ge (DV ok.q.okA ok.d root g pc hl xt) ?_;simp only [Bn,seval];have zz:=D0 @j7 @f8 @b7 Jq;refine By [400] [400] (hN) ?_;simp only [Ck.vv,Je,Ba,BS,dg0,List.length_nil,seval];have zz:=AY @b7 @f8;refine Ge (DV ok.q.okA ok.d root1 g1 pc1 hl1 xt1) ?_;simp only [Bn,seval];have zz:=Cv @BS @b7 @LM;exact AI hx [] ⟨rfl,rfl,rfl⟩
   | cons p l1 =>
     rw [vfE,if_neg B9] at hq;subst hq;have h0:((0:Int) < ((l1.length + 1:Nat):Int))=True:=eq_true Aa;refine eX ?_;simp only [f98,c98,DG,Hd.v,Ba,Bn,seval];have zz:=AY @b7 @f8;refine Ge (DV ok.q.okA ok.d root g pc hl xt) ?_;simp only [Bn,seval];have zz:=D0 @j7 @f8 @b7 Jq;refine By [400] [400] (hN) ?_;simp only [Ck.vv,Je,Ba,BS,dg0,List.length_cons,h0,seval];have zz:=Cv @AA @b7 @LM;exact AI hx [] ⟨rfl,rfl,rfl⟩
theorem Rx (ok:OkOs M) (claim root:Dg) (h:Hd) (l:List Pf) (pre:Pr) :
 Ae M 98 [dg claim,DG root h l pre] [] 0 (Q3 (Ai (dg (vfy claim root h l pre).1) (Cn (vfy claim root h l pre).2)) [] 0):=by
 obtain ⟨g,pc,hl,xt⟩:=h;unfold vfy;by_cases hc:BP root (D2 g pc hl xt)=claim
 ·rw [if_neg (fun h=>h hc)];subst hc;cases hl with
  | true =>
    rw [if_pos rfl];exact KL ok root g pc true xt l pre g pc true xt none ⟨root,l,pre⟩ (IX ok.q (ckI ok.q.okA ok.q.ok.toOkH ok.c) g pc xt ⟨root,l,pre⟩) _ rfl
  | false =>
    rw [if_neg B9];by_cases hpc:8192#64≤pc
    ·rw [if_pos hpc];exact KL ok root g pc false xt l pre g pc true AD none ⟨root,l,pre⟩ (H8 ok.q (ckI ok.q.okA ok.q.ok.toOkH ok.c) g pc xt ⟨root,l,pre⟩ hpc) _ rfl
    ·rw [if_neg hpc];generalize hq:nx ckM ⟨g,pc,false,xt⟩ ⟨root,l,pre⟩=q;obtain ⟨⟨g1,pc1,hl1,xt1⟩,e,c1⟩:=q;exact KL ok root g pc false xt l pre g1 pc1 hl1 xt1 e c1 (J3 ok.q (ckI ok.q.okA ok.q.ok.toOkH ok.c) ⟨g,pc,false,xt⟩ ⟨root,l,pre⟩ trivial rfl hpc _ hq) _ rfl
 ·rw [if_pos hc];exact SE ok claim root g pc hl xt l pre hc
def a0c:=@Q2.eq_1
def Acb (m:Mc) (q:Hd × Option Int × Ps):Mc:=match q.2.1 with
 | none=>⟨q.2.2.f,q.1.g,q.1.pc,q.1.hl,q.1.xt⟩
 | some _=>⟨m.f,m.g,m.pc,true,EQ⟩
def Dj (pres:List (Dg × Pr)) (m:Mc):Mc :=
 if m.hl=true then m else if 8192#64≤m.pc then ⟨m.f,m.g,m.pc,true,AD⟩
 else Acb m (nx (Ks pres) m.h ⟨m.f,[],Pr.zero⟩)
theorem LB (pres:List (Dg × Pr)) (f g:Nat→BitVec 64) (pc xt:BitVec 64) (hpc:¬ 8192#64≤pc) :
 Dj pres ⟨f,g,pc,false,xt⟩=Acb ⟨f,g,pc,false,xt⟩ (Ox (Ks pres) ⟨g,pc,false,xt⟩ (f pc.toNat) ⟨f,[BD f pc],Pr.zero⟩):=by
 rw [Dj,if_neg B9,if_neg hpc];rfl
theorem Km {M:Seat} (ok:OkV M) (okP:OkP M) (f g:Nat→BitVec 64) (pc xt:BitVec 64) (hpc:¬ 8192#64≤pc) (w:BitVec 64) (hw:f pc.toNat=w) (op:Nat) (h1:1≤op) (h25:op≤25) (hop:Cj w=op) (h2:w >>> 32 &&& 255#64=0#64) :
 Ae M 70 [.ptr 0 [],.ptr 1 []] [(0,mach f g pc false xt)] 2 (Q3 .nili [(0,mach f (JB g (pF w 52) (apW op (g (pF w 48)) (g (pF w 44)) (g (pF w 40)))) (pc + 1#64) false xt)] 2):=by
 have hv:=HJ okP op h1 h25 (g (pF w 48)) (g (pF w 44)) (g (pF w 40));refine Ab ok.k70 rfl fun x hx=>?_;have hp:pc.toNat < 8192:=Ha;have a1:=At w 52;have a2:=At w 48;have a3:=At w 44;have a4:=At w 40;have d1:((op:Int)=0)=False:=eq_false Aa;have d2:((op:Int) < 26)=True:=eq_true Aa;refine eX ?_;simp only [Lcb,hpc,hw,seval];repeat refine sd ?_
 have zz:=@j3;refine Ge (AC ok w Aa h2) ?_;simp only [HQ,hop,d1,d2,seval];repeat refine sd ?_
 refine AO (hv) ?_;simp only [Bb,seval];repeat refine sd ?_
 have zz:=AY @c7 UR;exact AI hx [0,1] ⟨rfl,rfl,rfl⟩
theorem Aug (op:Nat) (f g:Nat→BitVec 64) (pc xt:BitVec 64) (d a:Nat) (to:BitVec 64):Si op f g pc xt d a to=(⟨f,(ME op ⟨g,pc,false,xt⟩ d a to).g,(ME op ⟨g,pc,false,xt⟩ d a to).pc,(ME op ⟨g,pc,false,xt⟩ d a to).hl,(ME op ⟨g,pc,false,xt⟩ d a to).xt⟩:Mc).v:=by
 unfold Si ME
 repeat' split
 all_goals rfl
theorem Afk {M:Seat} (ok:OkO M) (okP:OkP M) (pres:List (Dg × Pr)) (m:Mc) (h:¬ Rb m):Jy M m (Dj pres m):=by
 obtain ⟨f,g,pc,hl,xt⟩:=m;cases hl with
 | true =>
   rw [Dj,if_pos rfl];exact Eo ok.toOkV f g pc xt
 | false =>
   by_cases hpc:8192#64≤pc
   ·rw [Dj,if_neg B9,if_pos hpc];exact IJ ok.toOkV f g pc xt hpc
   rw [LB pres f g pc xt hpc];have key:∀ q:Hd × Option Int × Ps,Ox (Ks pres) ⟨g,pc,false,xt⟩ (f pc.toNat) ⟨f,[BD f pc],Pr.zero⟩=q→Ae M 70 [.ptr 0 [],.ptr 1 []] [(0,mach f g pc false xt)] 2 (Q3 .nili [(0,(Acb ⟨f,g,pc,false,xt⟩ q).v)] 2) →
    Jy M ⟨f,g,pc,false,xt⟩ (Acb ⟨f,g,pc,false,xt⟩ (Ox (Ks pres) ⟨g,pc,false,xt⟩ (f pc.toNat) ⟨f,[BD f pc],Pr.zero⟩)):=fun q hq hr=>by rw [hq];exact hr
   have hask:Rb ⟨f,g,pc,false,xt⟩=Rb ⟨f,g,pc,false,xt⟩:=rfl;unfold Rb at h;dsimp only at h;by_cases q0:isI (f pc.toNat)=false
   ·refine key _ (by rw [Ox,if_pos q0]) ?_;exact IK ok.toOkV f g pc xt hpc _ rfl (fun h=>by rw [(GM _).2 h] at q0;cases q0)
   obtain ⟨h35,h2⟩:=(GM _).1 (by simpa using q0);by_cases q1:Cj (f pc.toNat)=0
   ·refine key _ (by rw [Ox,if_neg q0,if_pos q1]) ?_;exact Fg ok.toOkV f g pc xt hpc _ rfl q1 h2
   by_cases q2:Cj (f pc.toNat) < 26
   ·refine key _ (by rw [Ox,if_neg q0,if_neg q1,if_pos q2]) ?_;exact Km ok.toOkV okP f g pc xt hpc _ rfl (Cj (f pc.toNat)) Aa Aa rfl h2
   by_cases q3:Cj (f pc.toNat)=26
   ·refine key _ (by rw [Ox,if_neg q0,if_neg q1,if_neg q2,if_pos q3]) ?_;exact JW ok.toOkV f g pc xt hpc _ rfl q3 h2
   by_cases q4:Cj (f pc.toNat)=27 ∨ Cj (f pc.toNat)=28
   ·by_cases hwh:8192#64≤g (pF (f pc.toNat) 48) + BitVec.ofInt 64 (pN (f pc.toNat))
    ·refine key _ (by rw [Ox,if_neg q0,if_neg q1,if_neg q2,if_neg q3,if_pos q4,if_pos hwh]) ?_;rcases q4 with q4 | q4
     ·exact E8 ok.toOkV f g pc xt hpc _ rfl q4 h2 _ rfl hwh
     ·exact Ew ok.toOkV f g pc xt hpc _ rfl q4 h2 _ rfl hwh
    ·by_cases q5:Cj (f pc.toNat)=27
     ·refine key _ (by rw [Ox,if_neg q0,if_neg q1,if_neg q2,if_neg q3,if_pos q4,if_neg hwh,if_pos q5]) ?_;exact Hg ok.toOkV f g pc xt hpc _ rfl q5 h2 _ rfl hwh
     ·refine key _ (by rw [Ox,if_neg q0,if_neg q1,if_neg q2,if_neg q3,if_pos q4,if_neg hwh,if_neg q5]) ?_;exact Gw ok.toOkV f g pc xt hpc _ rfl (q4.resolve_left q5) h2 _ rfl hwh
   by_cases q7:Cj (f pc.toNat) < 34
   ·refine key _ (by rw [Ox,if_neg q0,if_neg q1,if_neg q2,if_neg q3,if_neg q4,if_pos q7]) ?_;have hJ:=CE ok.toOkV (Cj (f pc.toNat)) Aa f g pc xt hpc _ rfl rfl h2;rw [Aug] at hJ;exact hJ
   by_cases q8:Cj (f pc.toNat)=34
   ·have hw:(wi (g (pF (f pc.toNat) 48)) 8#64 && wi (g (pF (f pc.toNat) 44)) 4#64)=false:=by
     cases hb:(wi (g (pF (f pc.toNat) 48)) 8#64 && wi (g (pF (f pc.toNat) 44)) 4#64) with
     | false=>rfl
     | true=>exact absurd ⟨rfl,hpc,h2,.inl ⟨q8,hb⟩⟩ h
    refine key ((⟨g,pc,false,xt⟩:Hd).stop AD,none,⟨f,[BD f pc],Pr.zero⟩) ?_ (FV ok f g pc xt hpc _ rfl q8 h2 hw);rw [Ox,if_neg q0,if_neg q1,if_neg q2,if_neg q3,if_neg q4,if_neg q7,TL,if_pos];rw [q8];exact hw
   ·have q8:Cj (f pc.toNat)=35:=Aa;have hw:(wi (g (pF (f pc.toNat) 48)) 4#64 && wi (g (pF (f pc.toNat) 44)) 8#64)=false:=by
     cases hb:(wi (g (pF (f pc.toNat) 48)) 4#64 && wi (g (pF (f pc.toNat) 44)) 8#64) with
     | false=>rfl
     | true=>exact absurd ⟨rfl,hpc,h2,.inr ⟨q8,hb⟩⟩ h
    refine key ((⟨g,pc,false,xt⟩:Hd).stop AD,none,⟨f,[BD f pc],Pr.zero⟩) ?_ (FT ok f g pc xt hpc _ rfl q8 h2 hw);rw [Ox,if_neg q0,if_neg q1,if_neg q2,if_neg q3,if_neg q4,if_neg q7,TL,if_pos];rw [q8];exact hw
end Mv
