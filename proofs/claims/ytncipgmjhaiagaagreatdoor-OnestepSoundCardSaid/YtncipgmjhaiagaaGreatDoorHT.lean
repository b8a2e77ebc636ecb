/- A part. -/
import Derived.Test.YtncipgmjhaiagaaGreatDoorHS
set_option linter.all false
set_option maxRecDepth 20000
set_option maxHeartbeats 64000000
namespace Mv
open Go
theorem Aun (kd:Int) (q:Nat) (w:BitVec 64) (root:Dg) (g:Nat→BitVec 64) (pc:BitVec 64) (hl:Bool) (xt:BitVec 64) (pre:Pr) :
 (∃ R G pc' hl' xt' P,spH kd q w root g pc hl xt pre R G pc' hl' xt' P) ∨ (¬ kd=1∧¬ kd=2∧¬ kd=3∧¬ kd=4∧¬ kd=5∧¬ kd=8):=by
 by_cases h1:kd=1
 ·exact .inl ⟨Dg.mk' fun j=>if j=q then root.at q ^^^ w.setWidth 8 else root.at j,g,pc,hl,xt,pre,.inl ⟨h1,fun j hj=>Dg.at_mk' _ _ hj,rfl,rfl,rfl,rfl,rfl⟩⟩
 by_cases h2:kd=2
 ·exact .inl ⟨root,fun j=>if j=q % 16 then g (q % 16) ^^^ w else g j,pc,hl,xt,pre,.inr (.inl ⟨h2,rfl,fun j _=>rfl,rfl,rfl,rfl,rfl⟩)⟩
 by_cases h3:kd=3
 ·exact .inl ⟨root,g,pc ^^^ w,hl,xt,pre,.inr (.inr (.inl ⟨h3,rfl,rfl,rfl,rfl,rfl,rfl⟩))⟩
 by_cases h4:kd=4
 ·exact .inl ⟨root,g,pc,!hl,xt,pre,.inr (.inr (.inr (.inl ⟨h4,rfl,rfl,rfl,rfl,rfl,rfl⟩)))⟩
 by_cases h5:kd=5
 ·exact .inl ⟨root,g,pc,hl,xt ^^^ w,pre,.inr (.inr (.inr (.inr (.inl ⟨h5,rfl,rfl,rfl,rfl,rfl,rfl⟩))))⟩
 by_cases h8:kd=8
 ·exact .inl ⟨root,g,pc,hl,xt,Pr.mk' fun j=>if j=2 * q then pre.at (2 * q) ^^^ w.setWidth 8 else pre.at j,.inr (.inr (.inr (.inr (.inr ⟨h8,rfl,rfl,rfl,rfl,rfl,fun j hj=>Pr.at_mk' _ _ hj⟩))))⟩
 exact .inr ⟨h1,h2,h3,h4,h5,h8⟩
theorem Auk {M:Seat} (ok:OkSp M) (x:Spo) (root:Dg) (h:Hd) (l:List Pf) (pre:Pr) (n:Nat) (hn:n≤100) (hf:Few n l) :
 ∃ root' h' l' pre',Few (n + 1) l'∧Af M 99 [Auy x,Vf root h l pre] [] 0 (Q3 (Vf root' h' l' pre') [] 0):=by
 obtain ⟨kd,a,b,w⟩:=x
 obtain ⟨g,pc,hl,xt⟩:=h
 obtain ⟨q,hq,hqe⟩:=As1 b 32 Aa Aa
 have hqe:(BitVec.ofInt 64 b % 32#64).toInt=(q:Int):=hqe
 have hL:=hf.1
 by_cases h0:l=[]
 ·subst h0
  rcases Aun kd q w root g pc hl xt pre with ⟨R,G,pc',hl',xt',P,hk⟩ | hk
  ·exact ⟨R,⟨G,pc',hl',xt'⟩,[],P,⟨Nat.zero_le _,fun p hp=>nomatch hp⟩,Aum ok kd a b w root g pc hl xt pre q hq hqe R G pc' hl' xt' P (.inl hk)⟩
  ·exact ⟨root,⟨g,pc,hl,xt⟩,[],pre,⟨Nat.zero_le _,fun p hp=>nomatch hp⟩,Aum ok kd a b w root g pc hl xt pre q hq hqe root g pc hl xt pre (.inr ⟨hk,rfl,rfl,rfl,rfl,rfl,rfl⟩)⟩
 have h0:0 < l.length:=List.length_pos_iff.2 h0
 obtain ⟨i,hi,hie⟩:=As1 a l.length h0 Aa
 have hP:=Aui hf i
 obtain ⟨⟨u,p⟩,e1⟩:∃ P,l.getD i default=P:=⟨_,rfl⟩
 have e2:Dz l i=Ir ⟨u,p⟩:=by rw [Dz,e1]
 rw [e1] at hP
 dsimp only at hP
 have hfl:Few (n + 1) l:=⟨by omega,hf.2⟩
 have S:=Auo ok kd a b w root g pc hl xt l pre h0 Aa i hi hie q hq hqe u p hP e2
 have T:=fun l' hk=>S root g pc hl xt pre l' (.inr ⟨rfl,rfl,rfl,rfl,rfl,rfl,hk⟩)
 rcases Aun kd q w root g pc hl xt pre with ⟨R,G,pc',hl',xt',P,hk⟩ | ⟨h1,h2,h3,h4,h5,h8⟩
 ·exact ⟨R,⟨G,pc',hl',xt'⟩,l,P,hfl,S R G pc' hl' xt' P l (.inl ⟨hk,rfl,fun j _=>rfl⟩)⟩
 have key:∀ n' (f:Nat→Pf),n'≤n + 1→(∀ j,j < n'→(f j).p.length≤13)→(∀ l',l'.length=n'→(∀ j,j < n'→Dz l' j=Ir (f j))→Af M 99 [spK kd a b w,Vf root ⟨g,pc,hl,xt⟩ l pre] [] 0 (Q3 (Vf root ⟨g,pc,hl,xt⟩ l' pre) [] 0)) →
  ∃ root' h' l' pre',Few (n + 1) l'∧Af M 99 [spK kd a b w,Vf root ⟨g,pc,hl,xt⟩ l pre] [] 0 (Q3 (Vf root' h' l' pre') [] 0):=fun n' f h1 h2 h3=>by
  obtain ⟨l',c1,c2,c3⟩:=Auq n' f h1 h2
  exact ⟨root,⟨g,pc,hl,xt⟩,l',pre,c3,h3 l' c1 c2⟩
 by_cases h6:kd=6
 ·refine key l.length (fun j=>if j=i then ⟨u ^^^ w,p⟩ else l.getD j default) Aa (fun j _=>by split <;> first | exact hP | exact Aui hf j) fun l' c1 c2=>T l' (.inr (.inr (.inr (.inl ⟨h6,c1,fun j hj=>?_⟩))))
  rw [c2 j hj];split <;> rfl
 by_cases h7:kd=7
 ·by_cases p0:p.length=0
  ·exact ⟨root,⟨g,pc,hl,xt⟩,l,pre,hfl,T l (.inr (.inl ⟨h7,p0,rfl,fun j _=>rfl⟩))⟩
  ·obtain ⟨q2,hq2,hqe2⟩:=As1 b p.length Aa Aa
   refine key l.length (fun j=>if j=i then ⟨u,(List.range p.length).map fun t=>Dg.mk' fun j=>if t=q2 then if j=q then (p.getD q2 Dg.zero).at q ^^^ w.setWidth 8 else (p.getD t Dg.zero).at j else (p.getD t Dg.zero).at j⟩ else l.getD j default) Aa (fun j _=>by split <;> first | (rw [List.length_map,List.length_range];exact hP) | exact Aui hf j) fun l' c1 c2=>T l' (.inr (.inr (.inr (.inr (.inr (.inr (.inr (.inr (.inr ⟨h7,q2,(List.range p.length).map fun t=>Dg.mk' fun j=>if t=q2 then if j=q then (p.getD q2 Dg.zero).at q ^^^ w.setWidth 8 else (p.getD t Dg.zero).at j else (p.getD t Dg.zero).at j,hq2,hqe2,by simp,fun t ht j hj=>?_,c1,fun j hj=>?_⟩)))))))))
   ·rw [List.getD_eq_getElem?_getD,List.getElem?_map,List.getElem?_range ht]
    exact Dg.at_mk' _ _ hj
   ·rw [c2 j hj];split <;> rfl
 by_cases h12:kd=12
 ·by_cases p0:p.length=0
  ·exact ⟨root,⟨g,pc,hl,xt⟩,l,pre,hfl,T l (.inr (.inr (.inl ⟨h12,p0,rfl,fun j _=>rfl⟩)))⟩
  ·refine key l.length (fun j=>if j=i then ⟨u,p.tail⟩ else l.getD j default) Aa (fun j _=>by split <;> first | (rw [List.length_tail];omega) | exact Aui hf j) fun l' c1 c2=>T l' (.inr (.inr (.inr (.inr (.inl ⟨h12,by omega,c1,fun j hj=>?_⟩)))))
   rw [c2 j hj];split <;> rfl
 by_cases h9:kd=9
 ·refine key (i + (l.length - (i + 1))) (fun j=>if j < i then l.getD j default else l.getD (i + 1 + (j - i)) default) Aa (fun j _=>by split <;> exact Aui hf _) fun l' c1 c2=>T l' (.inr (.inr (.inr (.inr (.inr (.inl ⟨h9,c1,fun j hj=>?_⟩))))))
  rw [c2 j hj];split <;> rfl
 by_cases h10:kd=10
 ·refine key (l.length + 1) (fun j=>if j < l.length then l.getD j default else l.getD i default) Aa (fun j _=>by split <;> exact Aui hf _) fun l' c1 c2=>T l' (.inr (.inr (.inr (.inr (.inr (.inr (.inl ⟨h10,c1,fun j hj=>?_⟩)))))))
  rw [c2 j hj];split <;> rfl
 by_cases h11:kd=11
 ·by_cases i0:i=0
  ·exact ⟨root,⟨g,pc,hl,xt⟩,l,pre,hfl,T l (.inr (.inr (.inr (.inr (.inr (.inr (.inr (.inl ⟨h11,i0,rfl,fun j _=>rfl⟩))))))))⟩
  ·refine key l.length (fun j=>if j=0 then l.getD i default else if j=i then l.getD 0 default else l.getD j default) Aa (fun j _=>by split;exact Aui hf _;split <;> exact Aui hf _) fun l' c1 c2=>T l' (.inr (.inr (.inr (.inr (.inr (.inr (.inr (.inr (.inl ⟨h11,i0,c1,fun j hj=>?_⟩)))))))))
   rw [c2 j hj];split;rfl;split <;> rfl
 exact ⟨root,⟨g,pc,hl,xt⟩,l,pre,hfl,T l (.inl ⟨⟨h1,h2,h3,h4,h5,h8,h6,h7,h9,h10,h11,h12⟩,rfl,fun j _=>rfl⟩)⟩
variable {M:Seat}
theorem O1 (k196:Al M 196 Qz=true) :
 Af M 196 [.nils] [] 0 (Q3 (.ptr 0 []) (Fx ⟨fun _=>0#64,fun _=>0#64,0#64,false,0#64⟩) 3):=by
 refine Ac k196 rfl fun x hx=>?_
 refine es 2000 ?_;(simp only [Qz,Aem,LZ,seval])
 repeat refine sd ?_
 refine Aq.mk hx [64,16,32] [] (.ptr 0 []) (Fx ⟨fun _=>0#64,fun _=>0#64,0#64,false,0#64⟩) 3 Ak (by simp only [Fk,seval]) (by simp only [IT,seval]) ?_ ⟨rfl,rfl,rfl⟩
 simp only [Fx,Cc,Ba,LY,seval]
theorem OB (k196:Al M 196 Qz=true) (n:Nat) (hn:n≤8192) (u:Nat→BitVec 64) :
 Af M 196 [.lst 1 n (fun j=>W (u j))] [] 0 (Q3 (.ptr 0 []) (Fx ⟨TX n u,fun _=>0#64,0#64,false,0#64⟩) 3):=by
 refine Ac k196 rfl fun x hx=>?_
 have m1:min n 8192=n:=Aa
 have m2:∀ i:Nat,(0≤i)=True:=fun i=>eq_true (Nat.zero_le i)
 refine es 2000 ?_;(simp only [Qz,Aem,m1,m2,LZ,seval])
 refine Aq.mk hx [64,16,32] [] (.ptr 0 []) (Fx ⟨TX n u,fun _=>0#64,0#64,false,0#64⟩) 3 Ak (by simp only [Fk,seval]) (by simp only [IT,seval]) ?_ ⟨rfl,rfl,rfl⟩
 simp only [Fx,Cc,Ba,TX,LY,seval]
 intro j hj
 by_cases h:j < n
 ·simp only [h,true_and,if_true,LY,seval]
 ·simp only [h,and_false,if_false,LY,seval]
def Aer (l:List In) (v:V):Prop:=v=Hl l ∨ (v = .nils∧l=[])
def ldM (l:List In):Mc:=⟨TX (min l.length 8192) (fun j=>G7 (l.getD j default)),fun _=>0#64,0#64,false,0#64⟩
theorem Gf (ok:OkRH M) (s:RD):∃ s',s.n < 4294967296→s.l.length < 4294967296→TrD M s s'∧s'.n≤s.n + 1∧s'.l.length≤s.l.length + 1:=by
 by_cases h:s.n < 4294967296∧s.l.length < 4294967296
 ·obtain ⟨s',hs⟩:=Wi ok s h.1 h.2
  exact ⟨s',fun _ _=>hs⟩
 ·exact ⟨s,fun h1 h2=>absurd ⟨h1,h2⟩ h⟩
noncomputable def Anq (ok:OkRH M) (s:RD):RD:=Classical.choose (Gf ok s)
noncomputable def Ha (ok:OkRH M) (s:RD):Nat→RD
 | 0=>s
 | i + 1=>Anq ok (Ha ok s i)
theorem Yy (ok:OkRH M) (s:RD) (hn:s.n < 2147483648) (hl:s.l.length < 2147483648):∀ i,i < 2147483648→(Ha ok s i).n≤s.n + i∧(Ha ok s i).l.length≤s.l.length + i
 | 0,_=>⟨Nat.le_refl _,Nat.le_refl _⟩
 | i + 1, h => by
   have h1:=Yy ok s hn hl i Aa
   have h2:=Classical.choose_spec (Gf ok (Ha ok s i)) Aa Aa
   have h3:Ha ok s (i + 1)=Classical.choose (Gf ok (Ha ok s i)):=rfl
   rw [h3]
   omega
theorem Ah1 (ok:OkRH M) (s:RD) (hn:s.n < 2147483648) (hl:s.l.length < 2147483648) (i:Nat) (hi:i < 2147483648):TrD M (Ha ok s i) (Ha ok s (i + 1)):=by
 have h1:=Yy ok s hn hl i hi
 exact (Classical.choose_spec (Gf ok (Ha ok s i)) Aa Aa).1
noncomputable def ZJ (s:SM):Hp:=if s.n=0 then Nh s else Sh 6 s
def c95:LC:=(sr [A1 8 (.mv (.c .nilp)),A1 9 (.mv (.c .nilp)),A1 10 (.mv (.c .nilp))] (sr [mt 18 2,kl 19 73 [(.t 18)],mt 17 19,ee 20 17 0,ee 21 17 1,mt 11 20,mt 12 21] (sr [mt 23 0,kl 24 75 [(.t 23)],kl 25 74 [(.t 24)],mt 22 25,ee 26 22 0,ee 27 22 1,mt 13 26,mt 14 27] (sr [mt 28 0,kl 29 75 [(.t 28)],kl 30 196 [(.t 29)],mt 15 30] (.seq (sr [mt 31 11,A1 32 (.eq false true .ptr (.t 31) (.c .nilp)),mt 33 32,mg 34 33 false 14,A2 35 33 false (.eq true true (.iface [74]) (.t 34) (.c .nili)),
  pKt 36 33 35,mt 37 36,mg 38 37 false 13,A2 39 37 false (.eq false true .ptr (.t 38) (.c .nilp)),
  pKt 40 37 39] (.cond (.t 40) (sr [mt 41 15,A1 8 (.mv (.c .nilp)),A1 9 (.mv (.c .nilp)),mt 10 41] .ret) .skip)) (.seq (sr [mt 42 1,
  lN 43 0 42,A1 44 (.mm false (.t 43) (cI 16)),
  mI 45 0] (.block 0 (.loop (sr [ak 46 .lss 45 44] (.seq (cXx 46 0) (.seq (.block 1 (sr [mt 47 45,mt 16 47]
 (.regd [⟨0,0,mt 48 13⟩,⟨1,0,mt 49 16⟩,⟨2,0,mt 50 15⟩,⟨3,4,nc 51 50⟩,⟨4,12,fa 52 1 51⟩,⟨5,28,lb 53 1 52⟩,⟨7,0,mt 55 1⟩,⟨8,0,mt 56 16⟩,⟨9,192,ia 57 1 55 56⟩,⟨10,448,lb 58 1 57⟩,⟨11,0,mt 59 1⟩,⟨12,0,mt 60 16⟩,⟨13,3072,ia 61 1 59 60⟩,⟨14,7168,lb 62 1 61⟩,⟨15,1,nc 63 48⟩,⟨16,16385,fa 64 8192 63⟩,⟨17,65535,ib 65 16 1 64 49⟩,⟨18,131071,sb 1 65 58⟩,⟨6,0,mt 54 16⟩,⟨19,524287,ia 66 1 53 54⟩,⟨20,1048575,sb 1 66 62⟩]))) (.reg [aI 67 .add 45 1,mt 45 67]))))))) (.seq (sr [mt 68 3,
  cVv 69 .u64 68,
  aU 70 .rem 69 60,
  cVv 71 .i64 70,
  mI 72 0] (.block 2 (.loop (sr [ak 73 .lss 72 71] (.seq (cXx 73 2) (.seq (.block 3 (sr [mt 74 13,mt 75 11,kl 76 70 [(.t 74),(.t 75)]] (.reg [mt 77 15,mt 78 12,kl 79 240 [(.t 77),(.t 78)]]))) (.reg [aI 80 .add 72 1,mt 72 80]))))))) (sr [mt 81 13,mt 82 11,mt 83 15,mt 8 81,mt 9 82,mt 10 83] .ret))))))))
def f95:LF:=⟨c95,4,0,84,[.tmp 8,.tmp 9,.tmp 10]⟩
def dm (m:Mc):Hp:=[(7,Ba 8 9 m.pc m.hl m.xt),(8,.ar 1 8192 fun j=>W (m.f j)),(9,.ar 1 16 fun j=>W (m.g j))]
def SB:=(aq3 @Qg @dm.eq_1 @Ba.eq_1)
def dN (t:RD):Hp:=dm t.m ++ [(10,.st 4 (.fcons 0 (.sl 11 [] 0 t.l.length 32) (.fcons 1 (.sl 12 [] 0 t.l.length 64) (.fcons 2 .nils (.fcons 3 (.bool t.met) .fnil))))),(11,.ar 32 t.l.length fun i=>dg (rh t.l i)),(12,.ar 64 t.l.length fun i=>At (rp t.l i))]
def dS (t:RD):Hp:=dm t.m ++ [(10,.st 4 (.fcons 0 (.sl 11 [] 0 t.l.length 32) (.fcons 1 (.sl 12 [] 0 t.l.length 64) (.fcons 2 (.sl 13 [] 0 t.n 32) (.fcons 3 (.bool t.met) .fnil))))),(11,.ar 32 t.l.length fun i=>dg (rh t.l i)),(12,.ar 64 t.l.length fun i=>At (rp t.l i)),(13,.ar 32 t.n fun i=>dg (t.q i))]
noncomputable def dH (t:RD):Hp:=if t.n=0 then dN t else dS t
def atL:LC:=(sr [ak 73 .lss 72 71] (.seq (cXx 73 2) (.seq (.block 3 (sr [mt 74 13,mt 75 11,kl 76 70 [(.t 74),(.t 75)]] (.reg [mt 77 15,mt 78 12,kl 79 240 [(.t 77),(.t 78)]]))) (.reg [aI 80 .add 72 1,mt 72 80]))))
def atT:LC:=(sr [mt 81 13,mt 82 11,mt 83 15,mt 8 81,mt 9 82,mt 10 83] .ret)
noncomputable def atH (s:SM) (m:Mc):Hp:=ZJ s ++ dm m
theorem Apa {M:Seat} (T:Nat→SM) (U:Nat→RD) (n:Nat) (hn:n < 300) (hs:(T 0).n=0) (ht:(U 0).n=0) (hst:∀ i,i < n→S7 M (T i) (T (i + 1))) (htt:∀ i,i < n→TrD M (U i) (U (i + 1))) {x:Ctx} (hx:x.k=0) {A:List V} {H:Hp} {N:Nat}
 (hw:Aj M x A H N (fr 84 [(11,.ptr 0 []),(12,.ptr 10 []),(13,.ptr 5 []),(15,.ptr 7 []),(71,.int .i64 n),(72,.int .i64 (0:Nat))]) (Nh (T 0) ++ dN (U 0)) 14) :
 Gz M x (Aq M x [RVr.tmp 8,RVr.tmp 9,RVr.tmp 10] fun r H' k'=>r=BD (.ptr 5 []) (.ptr 0 []) (.ptr 7 [])∧H'=atH (T n) (U n).m∧k'=14) atL [.blk 2,.code atT] A H N:=by
 have hv:∀ m:Mc,m.v=mach m.f m.g m.pc m.hl m.xt:=fun _=>rfl
 refine Ag (σ:=Nat) (fun i=>i≤n) (fun i=>fr 84 [(11,.ptr 0 []),(12,.ptr 10 []),(13,.ptr 5 []),(15,.ptr 7 []),(71,.int .i64 n),(72,.int .i64 i)]) (fun i=>ZJ (T i) ++ dH (U i)) (fun _=>14) (fun i=>n - i) 0 Aa ?_ ?_
 ·rw [show ZJ (T 0)=Nh (T 0) from if_pos hs,show dH (U 0)=dN (U 0) from if_pos ht]
  exact hw
 ·intro i hi
  have w0:IntKind.i64.wrap ((i:Int) + 1)=((i + 1:Nat):Int):=A9
  by_cases hin:i=n
  ·subst hin
   have d0:((i:Int) < (i:Int))=False:=eq_false Aa
   rw [atH]
   by_cases hz:(T i).n=0 <;> by_cases hy:(U i).n=0
   all_goals
    simp only [ZJ,dH,hz,hy,CD]
    refine es 2000 ?_
    (simp only [atL,atT,d0,Qg,hv,dN,dS,dm,Fj,seval])
    refine Aq.mk hx [0,1,2,3,4,5,6,7,8,9,10,11,12,13] [] (BD (.ptr 5 []) (.ptr 0 []) (.ptr 7 [])) _ 14 Ak (by simp only [Fk,BD,IY,seval]) (by simp only [IT,BD,IY,seval]) ?_ ⟨rfl,rfl,rfl⟩
    simp only [SB,hv,Ik,dN,dS,seval]
  ·have d0:((i:Int) < (n:Int))=True:=eq_true Aa
   refine es 2000 ?_
   have hi1:i + 1≤n:=Aa
   have hst:=hst i hi1
   have htt:=htt i hi1
   generalize hσ':T (i + 1) = σ' at *
   generalize hσ:T i = σ at *
   generalize hτ':U (i + 1) = τ' at *
   generalize hτ:U i = τ at *
   by_cases hz:σ.n=0 <;> by_cases hy:τ.n=0
   all_goals
    first | rw [show ZJ σ=Nh σ from if_pos hz] | rw [show ZJ σ=Sh 6 σ from if_neg hz]
    first | rw [show dH τ=dN τ from if_pos hy] | rw [show dH τ=dS τ from if_neg hy]
    (simp only [atL,d0,Qg,hv,dN,dS,dm,Fj,Vl,seval])
    rcases hst.1 with ⟨h,hw⟩ | ⟨h0,h1',h6⟩ | ⟨h0,h1',h62⟩ | ⟨h0,h1',h6⟩ | ⟨h0,h1',h62⟩
    all_goals try (exact absurd h0 Aa)
    all_goals first
     | (have w1 : σ'.w = σ.w := by rw [hw]
        have w2:σ'.l = σ.l:=by rw [hw]
        have w3:σ'.n = σ.n:=by rw [hw]
        have w4:σ'.q = σ.q:=by rw [hw]
        have hm:Af M 70 [.ptr 0 [],.ptr 1 []] [(0,σ.m.v)] 2 _:=h
        rw [hv σ.m] at hm
        clear hw
        (have zz:=aq2 @mach.eq_1 hv;refine JO [5,0] [5] (hm) ?_))
     | (have w1 := hv
        have w2:=hv
        have w3:=hv
        have w4:=hv
        first | have hm:=h6 | have hm:=h62
        simp only [Nh,Sh,hv σ.m] at hm
        first
        | (have hm : Af M 70 [.ptr 5 [], .ptr 0 []] _ 6 _ := hm
           (have zz:=aq3 @Qg hv GM;refine Fl [0,1,2,3,4,5] (hm) ?_))
        | (have hm : Af M 70 [.ptr 5 [], .ptr 0 []] _ 7 _ := hm
           (have zz:=aq3 @Qg hv GM;refine Fl [0,1,2,3,4,5,6] (hm) ?_)))
    all_goals
     (simp only [Qg,hv,AR,BA,seval])
     rcases htt with ⟨hd,u1,u2,u3,u4⟩ | ⟨k0,h1'',hd0⟩ | ⟨k0,h1'',hd1⟩ | ⟨k0,h1'',hd2⟩ | ⟨k0,h1'',hd0⟩ | ⟨k0,h1'',hd1⟩ | ⟨k0,h1'',hd2⟩
     all_goals try (exact absurd k0 Aa)
     all_goals first
      | (have hd : Af M _ _ _ 4 _ := hd
         rw [Fx,Cc] at hd
         (have zz:=aq3 @Fx.eq_1 @Cc.eq_1 @Ba.eq_1;refine JO [7,8,9,10] [7,8,9] (hd) ?_))
      | (have u1 := hv
         have u2:=hv
         have u3:=hv
         have u4:=hv
         first | have hd:=hd0 | have hd:=hd1 | have hd:=hd2
         first
         | (have hd : Af M _ _ _ 6 _ := hd
            (have zz:=Apk @rN.eq_1 @rNG.eq_1 @rS.eq_1 @rSG.eq_1 @rST.eq_1 @Fx.eq_1 @Cc.eq_1 @YI.eq_1 @NL.eq_1 @Qj.eq_1 @NW.eq_1 @Jn.eq_1 UW @CO.eq_1 Vl;refine Fl [7,8,9,10,11,12] (hd) ?_))
         | (have hd : Af M _ _ _ 7 _ := hd
            (have zz:=Apk @rN.eq_1 @rNG.eq_1 @rS.eq_1 @rSG.eq_1 @rST.eq_1 @Fx.eq_1 @Cc.eq_1 @YI.eq_1 @NL.eq_1 @Qj.eq_1 @NW.eq_1 @Jn.eq_1 UW @CO.eq_1 Vl;refine Fl [7,8,9,10,11,12,13] (hd) ?_)))
     all_goals
      (simp only [rN,rNG,rS,rSG,rST,Fx,Cc,YI,NL,Qj,NW,Jn,Qm,CO,Fq,Vl,LM,w0,seval])
      refine ⟨i + 1,hi1,by omega,?_⟩
      rw [hσ',hτ']
      first | rw [show ZJ σ'=Nh σ' from if_pos Aa] | rw [show ZJ σ'=Sh 6 σ' from if_neg Aa]
      first | rw [show dH τ'=dN τ' from if_pos Aa] | rw [show dH τ'=dS τ' from if_neg Aa]
      first
      | (clear h62
         first
         | (clear hd1;refine Aj.fr [0,1,2,3,4,5,62,7,8,9,10,110,111,13] [] hx Ax Ak ?_ ?_)
         | (clear hd2;refine Aj.fr [0,1,2,3,4,5,62,7,8,9,10,11,12,110] [] hx Ax Ak ?_ ?_)
         | refine Aj.fr [0,1,2,3,4,5,62,7,8,9,10,11,12,13] [] hx Ax Ak ?_ ?_)
      | (clear hd1;refine Aj.fr [0,1,2,3,4,5,6,7,8,9,10,110,111,13] [] hx Ax Ak ?_ ?_)
      | (clear hd2;refine Aj.fr [0,1,2,3,4,5,6,7,8,9,10,11,12,110] [] hx Ax Ak ?_ ?_)
      | refine Aj.fr [0,1,2,3,4,5,6,7,8,9,10,11,12,13] [] hx Ax Ak ?_ ?_
      ·simp only [LY,seval]
      ·simp only [w1,w2,w3,w4,u1,u2,u3,u4,SB,hv,Ik,dN,dS,At,seval]
def Ya (n:Int):Nat:=(BitVec.ofInt 64 n % 60#64).toNat
theorem RL (n:Int):Ya n < 60:=by rw [Ya,BitVec.toNat_umod];exact Nat.mod_lt _ Ak
theorem Zo (n:Int):(BitVec.ofInt 64 n % 60#64).toInt=(Ya n:Int):=by
 have:=RL n
 rw [BitVec.toInt_eq_toNat_cond,if_pos (by unfold Ya at this;omega)];rfl
def gI (rs:List (BitVec 64)) (i j:Nat):BitVec 64:=if j < i then rs.getD j 0 else 0#64
def Ta (w:WS) (f:Nat→BitVec 64) (rs:List (BitVec 64)) (i:Nat):SM:=⟨w,[],0,fun _=>Dg.zero,⟨f,gI rs i,0#64,false,0#64⟩⟩
def SE (rl:List (Dg × Pr)) (met:Bool) (f:Nat→BitVec 64) (rs:List (BitVec 64)) (i:Nat):RD:=⟨rl,met,0,fun _=>Dg.zero,⟨f,gI rs i,0#64,false,0#64⟩⟩
def atG:LC:=(sr [ak 46 .lss 45 44] (.seq (cXx 46 0) (.seq (.block 1 (sr [mt 47 45,mt 16 47]
 (.regd [⟨0,0,mt 48 13⟩,⟨1,0,mt 49 16⟩,⟨2,0,mt 50 15⟩,⟨3,4,nc 51 50⟩,⟨4,12,fa 52 1 51⟩,⟨5,28,lb 53 1 52⟩,⟨7,0,mt 55 1⟩,⟨8,0,mt 56 16⟩,⟨9,192,ia 57 1 55 56⟩,⟨10,448,lb 58 1 57⟩,⟨11,0,mt 59 1⟩,⟨12,0,mt 60 16⟩,⟨13,3072,ia 61 1 59 60⟩,⟨14,7168,lb 62 1 61⟩,⟨15,1,nc 63 48⟩,⟨16,16385,fa 64 8192 63⟩,⟨17,65535,ib 65 16 1 64 49⟩,⟨18,131071,sb 1 65 58⟩,⟨6,0,mt 54 16⟩,⟨19,524287,ia 66 1 53 54⟩,⟨20,1048575,sb 1 66 62⟩]))) (.reg [aI 67 .add 45 1,mt 45 67]))))
def atR:LC:=(.seq (sr [mt 68 3,
 cVv 69 .u64 68,
 aU 70 .rem 69 60,
 cVv 71 .i64 70,
 mI 72 0] (.block 2 (.loop (sr [ak 73 .lss 72 71] (.seq (cXx 73 2) (.seq (.block 3 (sr [mt 74 13,mt 75 11,kl 76 70 [(.t 74),(.t 75)]] (.reg [mt 77 15,mt 78 12,kl 79 240 [(.t 77),(.t 78)]]))) (.reg [aI 80 .add 72 1,mt 72 80]))))))) (sr [mt 81 13,mt 82 11,mt 83 15,mt 8 81,mt 9 82,mt 10 83] .ret))
variable {M:Seat}
theorem Aom (ok:OkT M) (s:SM):∃ s',s.n < 1099511627776→S7 M s s'∧s'.m=Tr s.w.pres s.m∧(JT s.w.pres→JT s'.w.pres):=by
 by_cases h:s.n < 1099511627776
 ·obtain ⟨s',hs⟩:=Ao4 ok s h
  exact ⟨s',fun _=>hs⟩
 ·exact ⟨s,fun h1=>absurd h1 h⟩
noncomputable def Ao7 (ok:OkT M) (s:SM):SM:=Classical.choose (Aom ok s)
theorem Aop (ok:OkT M) (s:SM) (h:s.n < 1099511627776):S7 M s (Ao7 ok s)∧(Ao7 ok s).m=Tr s.w.pres s.m∧(JT s.w.pres→JT (Ao7 ok s).w.pres):=Classical.choose_spec (Aom ok s) h
noncomputable def itx (ok:OkT M) (s:SM):Nat→SM
 | 0=>s
 | i + 1=>Ao7 ok (itx ok s i)
theorem Aor (ok:OkT M) (s:SM) (hn:s.n < 549755813888):∀ i,i < 549755813888→(itx ok s i).n≤s.n + i
 | 0,_=>Nat.le_refl _
 | i + 1, h => by
   have h1:=Aor ok s hn i Aa
   have h2:=(Aop ok (itx ok s i) Aa).1.2
   show (Ao7 ok (itx ok s i)).n≤_
   omega
theorem Apg (ok:OkT M) (s:SM) (hn:s.n < 549755813888) (i:Nat) (hi:i < 549755813888):S7 M (itx ok s i) (itx ok s (i + 1)) :=
 (Aop ok _ (by have:=Aor ok s hn i hi;omega)).1
theorem Ao6 (okT:OkT M) (okR:OkRH M) (w:WS) (rl:List (Dg × Pr)) (met:Bool) (hrl:rl.length < 2147483648) (f:Nat→BitVec 64) (rs:List (BitVec 64)) (k:Int) {x:Ctx} (hx:x.k=0) {A:List V} {H:Hp} {N:Nat}
 (hw:Aj M x A H N (fr 84 [(1,Bn rs),(3,.int .i64 k),(11,.ptr 0 []),(12,.ptr 10 []),(13,.ptr 5 []),(15,.ptr 7 []),(44,.int .i64 (min rs.length 16:Nat)),(45,.int .i64 (0:Nat))]) (Nh (Ta w f rs 0) ++ dN (SE rl met f rs 0)) 14) :
 Gz M x (Aq M x [RVr.tmp 8,RVr.tmp 9,RVr.tmp 10] fun r H' k'=>r=BD (.ptr 5 []) (.ptr 0 []) (.ptr 7 [])∧H'=atH (itx okT (Ta w f rs (min rs.length 16)) (Ya k)) (Ha okR (SE rl met f rs (min rs.length 16)) (Ya k)).m∧k'=14) atG [.blk 0,.code atR] A H N:=by
 have hv:∀ m:Mc,m.v=mach m.f m.g m.pc m.hl m.xt:=fun _=>rfl
 refine Ag (σ:=Nat) (fun i=>i≤min rs.length 16) (fun i=>fr 84 [(1,Bn rs),(3,.int .i64 k),(11,.ptr 0 []),(12,.ptr 10 []),(13,.ptr 5 []),(15,.ptr 7 []),(44,.int .i64 (min rs.length 16:Nat)),(45,.int .i64 i)]) (fun i=>Nh (Ta w f rs i) ++ dN (SE rl met f rs i)) (fun _=>14) (fun i=>min rs.length 16 - i) 0 Aa hw ?_
 intro i hi
 by_cases hin:i=min rs.length 16
 ·subst hin
  have hlp:=@Apa M (itx okT (Ta w f rs (min rs.length 16))) (Ha okR (SE rl met f rs (min rs.length 16))) (Ya k) (by have:=RL k;omega) rfl rfl (fun i hi=>Apg okT _ (by show 0 < _;omega) i (by have:=RL k;omega)) (fun i hi=>Ah1 okR _ (by show 0 < _;omega) hrl i (by have:=RL k;omega)) x hx
  generalize min rs.length 16=K at *
  have d0:((K:Int) < (K:Int))=False:=eq_false Aa
  have w0:IntKind.i64.wrap (Ya k:Int)=(Ya k:Int):=by have:=RL k;rw [AI Aa]
  have e1:∀ s,itx okT s 0=s:=fun _=>rfl
  have e2:∀ s,Ha okR s 0=s:=fun _=>rfl
  rw [e1,e2] at hlp
  generalize hS:Ta w f rs K=s at *
  generalize hD:SE rl met f rs K=t at *
  refine es 2000 ?_
  (simp only [atG,atR,d0,Qg,hv,dN,dm,Fj,Zo,w0,seval])
  refine hlp ?_
  refine Aj.fr [0,1,2,3,4,5,6,7,8,9,10,11,12,13] [] hx Ax Ak ?_ ?_
  ·simp only [LY,seval]
  ·simp only [SB,hv,Ik,dN,At,seval]
 ·have d0:((i:Int) < ((min rs.length 16:Nat):Int))=True:=eq_true Aa
  have w0:IntKind.i64.wrap ((i:Int) + 1)=((i + 1:Nat):Int):=A9
  have g1:∀ j,gI rs (i + 1) j=if j=i then rs.getD i 0 else gI rs i j:=fun j=>by
   unfold gI
   by_cases h:j=i
   ·subst h;rw [if_pos Aa,if_pos rfl]
   ·rw [if_neg h]
    by_cases h2:j < i
    ·rw [if_pos h2,if_pos Aa]
    ·rw [if_neg h2,if_neg Aa]
  have hi1:i < rs.length:=Aa
  have hi2:i < 16:=Aa
  refine es 2000 ?_
  (simp only [atG,d0,w0,Qg,hv,Ta,SE,dN,dm,Fj,Bn,ws,seval])
  repeat refine sd ?_
  refine ⟨i + 1,by omega,by omega,?_⟩
  refine Aj.fr [0,1,2,3,4,5,6,7,8,9,10,11,12,13] [] hx Ax Ak ?_ ?_
  ·simp only [Bn,ws,LY,seval]
  ·simp only [g1,JZ,SB,hv,Ta,SE,Ik,dN,At,seval]
noncomputable def Ao1 (R:List (Dg × Pr) × Bool) (p:Pr):List (Dg × Pr) × Bool:=if Gq R.1 (CE p)=R.1.length then (R.1 ++ [(CE p,p)],R.2) else (P4 R.1 p,Xk R.1 R.2 p)
noncomputable def Aoe (R:List (Dg × Pr) × Bool) (pf:Nat→Pr):Nat→List (Dg × Pr) × Bool
 | 0=>R
 | n + 1=>Ao1 (Aoe R pf n) (pf n)
def Aog (w:WS) (pf:Nat→Pr):Nat→WS
 | 0=>w
 | n + 1=>(Aog w pf n).add (pf n)
theorem Ao5 (R:List (Dg × Pr) × Bool) (p:Pr):(Ao1 R p).1.length≤R.1.length + 1:=by
 rw [Ao1];split
 ·simp only [Lc4];omega
 ·simp only [P4,List.length_set];omega
theorem Aol (R:List (Dg × Pr) × Bool) (pf:Nat→Pr):∀ n,(Aoe R pf n).1.length≤R.1.length + n
 | 0=>Nat.le_refl _
 | n + 1 => by
   have h:=Aol R pf n
   have h2:=Ao5 (Aoe R pf n) (pf n)
   rw [Aoe];omega
theorem Aoo {M:Seat} (okA:OkM M) (okS:OkS M) (okB:OkB M) (ok:OkR M) (n:Nat) (hn:n < 9223372036854775808) (pf:Nat→Pr) :
 Af M 73 [.lst 64 n fun i=>At (pf i)] [] 0 (Q3 (Ao (.ptr 0 []) (.ptr 5 [])) (AF (Aog (FK 16) pf (min n 50)) .nils [] ++ RO (Aoe (BL 16) pf (min n 50)).1 (Aoe (BL 16) pf (min n 50)).2) 8):=by
 have hw0:Aog (FK 16) pf 0=FK 16:=rfl
 have hr0:Aoe (BL 16) pf 0=BL 16:=rfl
 have hws:∀ i,Aog (FK 16) pf (i + 1)=(Aog (FK 16) pf i).add (pf i):=fun _=>rfl
 have hrs:∀ i,Aoe (BL 16) pf (i + 1)=Ao1 (Aoe (BL 16) pf i) (pf i):=fun _=>rfl
 have hrl:∀ i,(Aoe (BL 16) pf i).1.length≤16 + i:=fun i=>by have:=Aol (BL 16) pf i;have:=Ku 16;omega
 have hN:=PC okA okS
 have hR:=Um okB ok
 generalize Aog (FK 16) pf=T at *
 generalize Aoe (BL 16) pf=U at *
 generalize FK 16=w at *
 generalize BL 16=R at *
 subst hw0 hr0
 refine Ac ok.k73 rfl fun x hx=>?_
 refine es 2000 ?_;(simp only [f73,c73,LZ,seval])
 have zz:=aq4 @AF.eq_1 Nw @C6 @BV;refine El (hN) ?_
 (simp only [AF,Nw,AR,BA,seval])
 have zz:=aq3 @GT.eq_1 Ft @C6;refine El (hR) ?_
 (simp only [AF,Nw,AR,GT,Ft,BA,seval])
 refine Ag (σ:=Nat) (fun i=>i≤min n 50) (fun i=>fr 31 [(4,.ptr 0 []),(5,.ptr 5 []),(13,.lst 64 n fun i=>At (pf i)),(14,.int .i64 n),(15,.int .i64 i)]) (fun i=>AF (T i) .nils [] ++ RO (U i).1 (U i).2) (fun _=>8) (fun i=>min n 50 - i) 0 Aa ?_ ?_
 ·refine Aj.fr [32,33,34,35,36,48,49,50] [] hx Ax Ak ?_ ?_
  ·simp only [CF,seval]
  ·simp only [G0,RO,BJ,Ik,seval]
 ·intro i hi
  have w0:IntKind.i64.wrap ((i:Int) + 1)=((i + 1:Nat):Int):=A9
  refine es 2000 ?_
  by_cases hin:i=n
  ·have d0:((i:Int) < (n:Int))=False:=eq_false Aa
   have e:min n 50=i:=Aa
   rw [e]
   (simp only [d0,G0,RO,Ft,LZ,seval])
   refine ID hx [0,1,2,3,4,5,6,7] (Ao (.ptr 0 []) (.ptr 5 [])) (AF (T i) .nils [] ++ RO (U i).1 (U i).2) 8 ?_
   all_goals simp only [G0,RO,BJ,Ik,Ao,IY,LM,seval]
  have d0:((i:Int) < (n:Int))=True:=eq_true Aa
  by_cases h50:i=50
  ·have d1:((50:Int)≤(i:Int))=True:=eq_true Aa
   have e:min n 50=i:=Aa
   rw [e]
   (simp only [d0,d1,G0,RO,Ft,BA,seval])
   repeat refine sd ?_
   refine ID hx [0,1,2,3,4,5,6,7] (Ao (.ptr 0 []) (.ptr 5 [])) (AF (T i) .nils [] ++ RO (U i).1 (U i).2) 8 ?_
   all_goals simp only [G0,RO,BJ,Ik,Ao,IY,LM,seval]
  have d1:((50:Int)≤(i:Int))=False:=eq_false Aa
  have hl:=hrl i
  have hA0:=Mx okA okS (T i) (pf i)
  have hTs:=hws i
  have hUs:=hrs i
  generalize hT1:T (i + 1)=T1 at *
  generalize hU1:U (i + 1)=U1 at *
  generalize T i=T0 at *
  generalize U i=U0 at *
  obtain ⟨l,met⟩:=U0
  dsimp only at hl
  by_cases hk:Gq l (CE (pf i))=l.length
  ·have hA:=JW okB ok (pf i) met l Aa hk
   rw [Ao1,if_pos hk] at hUs
   (simp only [d0,d1,AF,RO,BA,Vl,seval])
   repeat refine sd ?_
   have zz:=aq3 @C6 @Fo.eq_1 Nw;refine JO [0,1,2,3,4] [0,1,2,3] (hA0) ?_
   (simp only [Gw,Fo,AR,seval])
   have zz:=aq4 Ft @GT.eq_1 @RX.eq_1 @C6;refine Fl [5,6,7] (hA) ?_
   (simp only [Nw,Ft,RX,BA,w0,seval])
   refine ⟨i + 1,by omega,by omega,?_⟩
   rw [hT1,hU1,hTs,hUs]
   refine Aj.fr [0,1,2,3,4,5,232,233] [] hx Ax Ak ?_ ?_
   ·simp only [CF,seval]
   ·simp only [G0,RO,BJ,Ik,seval]
  ·have hA:=Kr okB ok (pf i) met l Aa hk
   rw [Ao1,if_neg hk] at hUs
   (simp only [d0,d1,AF,RO,BA,Vl,seval])
   repeat refine sd ?_
   have zz:=aq3 @C6 @Fo.eq_1 Nw;refine JO [0,1,2,3,4] [0,1,2,3] (hA0) ?_
   (simp only [Gw,Fo,AR,seval])
   have zz:=aq3 Ft @GT.eq_1 @C6;refine Fl [5,6,7] (hA) ?_
   (simp only [Nw,Ft,GT,BA,w0,seval])
   refine ⟨i + 1,by omega,by omega,?_⟩
   rw [hT1,hU1,hTs,hUs]
   refine Aj.fr [0,1,2,3,4,5,6,7] [] hx Ax Ak ?_ ?_
   ·simp only [CF,seval]
   ·simp only [G0,RO,BJ,Ik,seval]
structure OkAt (M:Seat):Prop where
 t:OkT M
 r:OkRH M
 kx:OkI75 M
 k95:Al M 95 f95=true
 k196:Al M 196 Qz=true
end Mv
